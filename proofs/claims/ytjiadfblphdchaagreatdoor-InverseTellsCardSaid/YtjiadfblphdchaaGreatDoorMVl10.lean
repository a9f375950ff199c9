/-
  Walks: nat.Add, nat.Over, nat.Mul.
  Plain mathematics of layer 2: decimal digits, nine by nine.
  Walk: word.Text: a word's symbols as digits.
  Walk: nat.Text: a number's decimal digits.
  Walk: nat.Mul.
  Plain mathematics: a number's limbs, a rule's number.
  Walk: slices.Backward over a list of symbols, its iterator (after the kit's worked examples).
  The law of the plan (text Held) within a round of a range over a function.
  Walk: rule.Code.
  Walk: rule.Text: a rule's text.
  Walk: edenlaw13.awake.
  Walk: edenlaw14.awake.
  Walk: edenlaw20.awake, edenlaw20.heavy.
  Walks: additive.Of.
  Walks: additive.Onto, additive.One.
  Walks: edenref18.Onto, One.
  Walk: edenref18.One.
  Errors as edenraw.Is takes them: a number from 1 to 11, few packages.
  Plain mathematics: the reference's factors of a rule, the first found first.
  Walk: edenref18.Of.
  Walks: edenref04.Value, edenref05.fault, edenref05.Mirror at a rule.
  Plain mathematics of layers 6 and 14: the image of a ring; the first two of a row of lists that are one.
  Plain mathematics of layer 14: rows along vertices without ends, their images.
  Plain facts: a ring's windows; two rings with one image tell that a rule is not one to one.
  Walks: edenref04.Small, Image, edenref08.Fault.
-/
import Derived.Test.YtjiadfblphdchaaGreatDoorMVl9
import Derived.Laws.BytesArg
import Derived.Shelf.Strings.Trim
import Derived.RangeFuncBox
import Derived.RangeFuncLeaves
import Derived.Shelf.Abstract
import Derived.OwnWalkIn
import Derived.TacticsInMore
import Derived.LoopNIn
import Derived.LoopIn
import Derived.OrdersIn
import Derived.TacticsIn
import Derived.RangeFuncCalls
import Derived.Deep.RegionWith
import Derived.RegionTactic
import Derived.Deep.RegionHeld3
import Derived.Deep.DeepCutAuto
namespace Go.Proofs.YtjiadfblphdchaaGreatDoor
open Go.RowKit
set_option maxRecDepth 100000
theorem natV_take_succ (l : List Nat) (i : Nat) : natV (l.take (i + 1)) = natV (l.take i) + 4294967296 ^ i * l.getD i 0:=by
 by_cases h : i < l.length
 ·rw [show l.take (i + 1) = l.take i ++ [l.getD i 0] by rw [List.take_add_one]; simp [List.getD,h],natV_snoc,List.length_take,Nat.min_eq_left (by omega)]
 ·rw [List.take_of_length_le (by omega),List.take_of_length_le (by omega),show l.getD i 0 = 0 by simp [List.getD,show l.length ≤ i by omega]]; simp
theorem natV_take_all {l : List Nat} {i : Nat} (h : l.length ≤ i) : natV (l.take i) = natV l:=by rw [List.take_of_length_le h]
theorem set_zeros {o : List Nat} {i k : Nat} (ho : o.length = i) (x : Nat) : (o ++ List.replicate (k + 1) 0).set i x = (o ++ [x]) ++ List.replicate k 0:=by
 rw [List.set_append_right _ _ (by omega),ho,Nat.sub_self,List.replicate_succ,List.set_cons_zero,List.append_assoc]; rfl
theorem limbs_snoc {o : List Nat} {x : Nat} (h : Limbs o) (hx : x < 4294967296) : Limbs (o ++ [x]):=fun y hy => by
 rcases List.mem_append.1 hy with hy | hy
 ·exact h y hy
 ·simp at hy; subst hy; exact hx
theorem limb_getD {l : List Nat} (h : Limbs l) (i : Nat) : l.getD i 0 < 4294967296:=by
 by_cases hi : i < l.length
 ·rw [show l.getD i 0 = l[i] by simp [List.getD,hi]]; exact h _ (List.getElem_mem hi)
 ·rw [show l.getD i 0 = 0 by simp [List.getD,show l.length ≤ i by omega]]; decide
theorem belowN {B : Nat} {w w' : World} (h : Below B w w') (n : Nat) : Below B w (w'.drewN n):=by
 obtain ⟨h1,h2,h3,h4,h5⟩:=h
 exact ⟨h1,h2,h3,h4,h5⟩
set_option maxHeartbeats 1000000 in
theorem add_ge (v u : Value) (l m : List Nat) (w : World) (h : LimbsAt w v l) (k : LimbsAt w u m) (hl : Limbs l) (hm : Limbs m) (hll : l.length ≤ 1000000) (hlt : m.length ≤ l.length) :
 Calls Tryz.prog 100 #[v,u] w (Ret1 (fun x w' => NumIs w.heap.size w' x (natV l + natV m)) w):=by
 have l1:=h.len
 have l2:=k.len
 obtain ⟨n,hn⟩ : ∃ n,l.length = n:=⟨_,rfl⟩
 obtain ⟨q,hq⟩ : ∃ q,m.length = q:=⟨_,rfl⟩
 have hqn : q ≤ n:=by omega
 have hnb : n ≤ 1000000:=by omega
 have d0 : decide (n < q) = false:=decide_eq_false (by omega)
 rw [hn] at l1
 rw [hq] at l2
 obtain ⟨ov,w1,mk,ho,b1⟩:=run_makeNat ((n : Int) + 1) (n + 1) w (by omega) (by omega)
 replace h:=Lib.hid h
 replace k:=Lib.hid k
 replace hl:=Lib.hid hl
 replace hm:=Lib.hid hm
 replace ho:=Lib.hid ho
 replace hn:=Lib.hid hn
 replace hq:=Lib.hid hq
 go_enter Tryz.func100,Tryz.ntmps100
 go_wp2_with fail
 go_loopw [6,23] (fun cv iv wr => ∃ (i c : Nat) (o : List Nat),i ≤ n ∧ iv = .int .i64 i ∧ cv = .int .u32 (c : Int) ∧ c ≤ 1 ∧ o.length = i ∧ Limbs o ∧ OwnN w.heap.size wr ov (o ++ List.replicate (n + 1 - i) 0) ∧ Below w.heap.size w wr ∧ natV o + 4294967296 ^ i * c = natV (l.take i) + natV (m.take i)) (fun _ iv _ => n - (intOf iv).toNat)
 case atStart => exact ⟨0,0,[],Nat.zero_le _,rfl,rfl,by omega,rfl,(fun x hx => by cases hx),ho.out,b1,by simp [natV]⟩
 case round =>
  clear mk
  obtain ⟨i,c,o,hi,rfl,rfl,hc,hol,hlo,hO,hB,hv⟩:=hrel
  obtain ⟨wo,rfl⟩ : ∃ wo : World,wo = wr:=⟨_,rfl⟩
  by_cases hin : i < n
  ·have di : decide ((i : Int) < (n : Int)) = true:=decide_eq_true (by omega)
   have hA:=h.out.below (hB)
   have hB':=k.out.below (hB)
   have iA:=fun w' => hA.idx i (by rw [hn.out]; exact hin) w'
   have cA:=hA.cell i (by rw [hn.out]; exact hin)
   have xl:=limb_getD hl.out i
   have yl:=limb_getD hm.out i
   have hvA:=natV_take_succ l i
   have hvB:=natV_take_succ m i
   have hk1 : n + 1 - i = (n - i) + 1:=by omega
   have hol2 : (o ++ List.replicate (n + 1 - i) 0).length = n + 1:=by rw [List.length_append,List.length_replicate]; omega
   have iO:=fun w' => hO.at.idx i (by rw [hol2]; omega) w'
   have fO:=hO.frz i (by rw [hol2]; omega)
   obtain ⟨z0,cO⟩ : ∃ z,wo.cell? (valAt ov i) = some z:=⟨_,hO.at.cell i (by rw [hol2]; omega)⟩
   obtain ⟨x,hx⟩ : ∃ x,l.getD i 0 = x:=⟨_,rfl⟩
   obtain ⟨y,hy⟩ : ∃ y,m.getD i 0 = y:=⟨_,rfl⟩
   rw [hx] at cA xl hvA
   rw [hy] at yl hvB
   have hset:=hO.set i (by rw [hol2]; omega) ((x + y + c) % 4294967296)
   have hsb:=hO.setBelow hB i (by rw [hol2]; omega) (.int .u32 (((x + y + c) % 4294967296 : Nat) : Int))
   rw [hk1,set_zeros hol] at hset
   have hrnd:=add_round (x:=x) (y:=y) hol hv
   rw [← hvA,← hvB] at hrnd
   have hz : (x + y + c) / 4294967296 ≤ 1:=by omega
   have hzl : (x + y + c) % 4294967296 < 4294967296:=Nat.mod_lt _ (by decide)
   have hadd:=add32_any x y c wo xl yl hc
   obtain ⟨pa,hpa⟩ : ∃ p,valAt v i = p:=⟨_,rfl⟩
   obtain ⟨po,hpo⟩ : ∃ p,valAt ov i = p:=⟨_,rfl⟩
   rw [hpa] at iA cA
   rw [hpo] at iO cO fO hset hsb
   obtain ⟨s,hs⟩ : ∃ s,(x + y + c) % 4294967296 = s:=⟨_,rfl⟩
   obtain ⟨c2,hc2⟩ : ∃ s,(x + y + c) / 4294967296 = s:=⟨_,rfl⟩
   rw [hs] at hset hsb hrnd hzl hadd
   rw [hc2] at hrnd hz hadd
   have hlo2:=limbs_snoc hlo hzl
   replace hset:=Lib.hid hset
   replace hsb:=Lib.hid hsb
   replace hrnd:=Lib.hid hrnd
   replace hv:=Lib.hid hv
   replace hvA:=Lib.hid hvA
   replace hvB:=Lib.hid hvB
   replace hO:=Lib.hid hO
   replace hlo:=Lib.hid hlo
   replace hlo2:=Lib.hid hlo2
   replace hol:=Lib.hid hol
   replace hol2:=Lib.hid hol2
   replace hx:=Lib.hid hx
   replace hy2:=Lib.hid hy
   replace hs:=Lib.hid hs
   replace hc2:=Lib.hid hc2
   replace hpa:=Lib.hid hpa
   replace hpo:=Lib.hid hpo
   replace hk1:=Lib.hid hk1
   replace hadd:=Lib.hid hadd
   by_cases hiq : i < q
   ·have dq : decide ((i : Int) < (q : Int)) = true:=decide_eq_true (by omega)
    have iB:=fun w' => hB'.idx i (by rw [hq.out]; exact hiq) w'
    have cB:=hB'.cell i (by rw [hq.out]; exact hiq)
    rw [hy] at cB
    obtain ⟨pb,hpb⟩ : ∃ p,valAt u i = p:=⟨_,rfl⟩
    rw [hpb] at iB cB
    replace hpb:=Lib.hid hpb
    clear hy
    replace hA:=Lib.hid hA
    replace hB':=Lib.hid hB'
    go_wp2_with fail
    refine hadd.out.mono ?_
    rintro e w' ⟨rfl,rfl⟩
    go_wp2
    go_roundw
    case measure => simp [intOf]; omega
    case rel => exact ⟨i + 1,c2,_,by omega,by go_num,rfl,hz,by rw [List.length_append,hol.out,List.length_singleton],hlo2.out,by rw [show n + 1 - (i + 1) = n - i by omega]; exact hset.out,hsb.out,hrnd.out⟩
   ·have dq : decide ((i : Int) < (q : Int)) = false:=decide_eq_false (by omega)
    have hy0 : y = 0:=by rw [← hy]; simp [List.getD,show m.length ≤ i by rw [hq.out]; omega]
    subst hy0
    clear hy
    replace hA:=Lib.hid hA
    replace hB':=Lib.hid hB'
    go_wp2_with fail
    refine hadd.out.mono ?_
    rintro e w' ⟨rfl,rfl⟩
    go_wp2
    go_roundw
    case measure => simp [intOf]; omega
    case rel => exact ⟨i + 1,c2,_,by omega,by go_num,rfl,hz,by rw [List.length_append,hol.out,List.length_singleton],hlo2.out,by rw [show n + 1 - (i + 1) = n - i by omega]; exact hset.out,hsb.out,hrnd.out⟩
  ·obtain rfl : i = n:=by omega
   have di : decide ((i : Int) < (i : Int)) = false:=decide_eq_false (by omega)
   have hol2 : (o ++ List.replicate (i + 1 - i) 0).length = i + 1:=by rw [List.length_append,List.length_replicate]; omega
   have iO:=fun w' => hO.at.idx i (by rw [hol2]; omega) w'
   have fO:=hO.frz i (by rw [hol2]; omega)
   obtain ⟨z0,cO⟩ : ∃ z,wo.cell? (valAt ov i) = some z:=⟨_,hO.at.cell i (by rw [hol2]; omega)⟩
   have hset:=hO.set i (by rw [hol2]; omega) c
   have hsb:=hO.setBelow hB i (by rw [hol2]; omega) (.int .u32 (c : Int))
   rw [show i + 1 - i = 0 + 1 by omega,set_zeros hol,List.replicate_zero,List.append_nil] at hset
   rw [natV_take_all (by rw [hn.out]; exact Nat.le_refl _),natV_take_all (by rw [hq.out]; exact hqn)] at hv
   have hval : natV (o ++ [c]) = natV l + natV m:=(by rw [natV_snoc,hol]; exact hv)
   have hlim:=limbs_snoc hlo (show c < 4294967296 by omega)
   obtain ⟨po,hpo⟩ : ∃ p,valAt ov i = p:=⟨_,rfl⟩
   rw [hpo] at iO cO fO hset hsb
   replace hset:=Lib.hid hset
   replace hsb:=Lib.hid hsb
   replace hv:=Lib.hid hv
   replace hO:=Lib.hid hO
   replace hlo:=Lib.hid hlo
   replace hol:=Lib.hid hol
   replace hol2:=Lib.hid hol2
   replace hpo:=Lib.hid hpo
   replace hval:=Lib.hid hval
   replace hlim:=Lib.hid hlim
   go_wp2_with fail
   refine (norm_own w.heap.size _ _ _ _ hset.out hlim.out hval.out).mono ?_
   rintro e w' ⟨⟨x,rfl,hx⟩,rfl⟩
   replace hx:=Lib.hid hx
   go_wp2
   go_ret
   exact ⟨_,rfl,hsb.out,hx.out⟩
set_option maxHeartbeats 1000000 in
theorem add_lt (v u : Value) (l m : List Nat) (w : World) (h : LimbsAt w v l) (k : LimbsAt w u m) (hl : Limbs l) (hm : Limbs m) (hml : m.length ≤ 1000000) (hlt : l.length < m.length) :
 Calls Tryz.prog 100 #[v,u] w (Ret1 (fun x w' => NumIs w.heap.size w' x (natV l + natV m)) w):=by
 have l1:=h.len
 have l2:=k.len
 obtain ⟨n,hn⟩ : ∃ n,m.length = n:=⟨_,rfl⟩
 obtain ⟨q,hq⟩ : ∃ q,l.length = q:=⟨_,rfl⟩
 have hqn : q ≤ n:=by omega
 have hnb : n ≤ 1000000:=by omega
 have d0 : decide (q < n) = true:=decide_eq_true (by omega)
 rw [hq] at l1
 rw [hn] at l2
 obtain ⟨ov,w1,mk,ho,b1⟩:=run_makeNat ((n : Int) + 1) (n + 1) w (by omega) (by omega)
 replace h:=Lib.hid h
 replace k:=Lib.hid k
 replace hl:=Lib.hid hl
 replace hm:=Lib.hid hm
 replace ho:=Lib.hid ho
 replace hn:=Lib.hid hn
 replace hq:=Lib.hid hq
 go_enter Tryz.func100,Tryz.ntmps100
 go_wp2_with fail
 go_loopw [6,23] (fun cv iv wr => ∃ (i c : Nat) (o : List Nat),i ≤ n ∧ iv = .int .i64 i ∧ cv = .int .u32 (c : Int) ∧ c ≤ 1 ∧ o.length = i ∧ Limbs o ∧ OwnN w.heap.size wr ov (o ++ List.replicate (n + 1 - i) 0) ∧ Below w.heap.size w wr ∧ natV o + 4294967296 ^ i * c = natV (m.take i) + natV (l.take i)) (fun _ iv _ => n - (intOf iv).toNat)
 case atStart => exact ⟨0,0,[],Nat.zero_le _,rfl,rfl,by omega,rfl,(fun x hx => by cases hx),ho.out,b1,by simp [natV]⟩
 case round =>
  clear mk
  obtain ⟨i,c,o,hi,rfl,rfl,hc,hol,hlo,hO,hB,hv⟩:=hrel
  obtain ⟨wo,rfl⟩ : ∃ wo : World,wo = wr:=⟨_,rfl⟩
  by_cases hin : i < n
  ·have di : decide ((i : Int) < (n : Int)) = true:=decide_eq_true (by omega)
   have hA:=k.out.below (hB)
   have hB':=h.out.below (hB)
   have iA:=fun w' => hA.idx i (by rw [hn.out]; exact hin) w'
   have cA:=hA.cell i (by rw [hn.out]; exact hin)
   have xl:=limb_getD hm.out i
   have yl:=limb_getD hl.out i
   have hvA:=natV_take_succ m i
   have hvB:=natV_take_succ l i
   have hk1 : n + 1 - i = (n - i) + 1:=by omega
   have hol2 : (o ++ List.replicate (n + 1 - i) 0).length = n + 1:=by rw [List.length_append,List.length_replicate]; omega
   have iO:=fun w' => hO.at.idx i (by rw [hol2]; omega) w'
   have fO:=hO.frz i (by rw [hol2]; omega)
   obtain ⟨z0,cO⟩ : ∃ z,wo.cell? (valAt ov i) = some z:=⟨_,hO.at.cell i (by rw [hol2]; omega)⟩
   obtain ⟨x,hx⟩ : ∃ x,m.getD i 0 = x:=⟨_,rfl⟩
   obtain ⟨y,hy⟩ : ∃ y,l.getD i 0 = y:=⟨_,rfl⟩
   rw [hx] at cA xl hvA
   rw [hy] at yl hvB
   have hset:=hO.set i (by rw [hol2]; omega) ((x + y + c) % 4294967296)
   have hsb:=hO.setBelow hB i (by rw [hol2]; omega) (.int .u32 (((x + y + c) % 4294967296 : Nat) : Int))
   rw [hk1,set_zeros hol] at hset
   have hrnd:=add_round (x:=x) (y:=y) hol hv
   rw [← hvA,← hvB] at hrnd
   have hz : (x + y + c) / 4294967296 ≤ 1:=by omega
   have hzl : (x + y + c) % 4294967296 < 4294967296:=Nat.mod_lt _ (by decide)
   have hadd:=add32_any x y c wo xl yl hc
   obtain ⟨pa,hpa⟩ : ∃ p,valAt u i = p:=⟨_,rfl⟩
   obtain ⟨po,hpo⟩ : ∃ p,valAt ov i = p:=⟨_,rfl⟩
   rw [hpa] at iA cA
   rw [hpo] at iO cO fO hset hsb
   obtain ⟨s,hs⟩ : ∃ s,(x + y + c) % 4294967296 = s:=⟨_,rfl⟩
   obtain ⟨c2,hc2⟩ : ∃ s,(x + y + c) / 4294967296 = s:=⟨_,rfl⟩
   rw [hs] at hset hsb hrnd hzl hadd
   rw [hc2] at hrnd hz hadd
   have hlo2:=limbs_snoc hlo hzl
   replace hset:=Lib.hid hset
   replace hsb:=Lib.hid hsb
   replace hrnd:=Lib.hid hrnd
   replace hv:=Lib.hid hv
   replace hvA:=Lib.hid hvA
   replace hvB:=Lib.hid hvB
   replace hO:=Lib.hid hO
   replace hlo:=Lib.hid hlo
   replace hlo2:=Lib.hid hlo2
   replace hol:=Lib.hid hol
   replace hol2:=Lib.hid hol2
   replace hx:=Lib.hid hx
   replace hy2:=Lib.hid hy
   replace hs:=Lib.hid hs
   replace hc2:=Lib.hid hc2
   replace hpa:=Lib.hid hpa
   replace hpo:=Lib.hid hpo
   replace hk1:=Lib.hid hk1
   replace hadd:=Lib.hid hadd
   by_cases hiq : i < q
   ·have dq : decide ((i : Int) < (q : Int)) = true:=decide_eq_true (by omega)
    have iB:=fun w' => hB'.idx i (by rw [hq.out]; exact hiq) w'
    have cB:=hB'.cell i (by rw [hq.out]; exact hiq)
    rw [hy] at cB
    obtain ⟨pb,hpb⟩ : ∃ p,valAt v i = p:=⟨_,rfl⟩
    rw [hpb] at iB cB
    replace hpb:=Lib.hid hpb
    clear hy
    replace hA:=Lib.hid hA
    replace hB':=Lib.hid hB'
    go_wp2_with fail
    refine hadd.out.mono ?_
    rintro e w' ⟨rfl,rfl⟩
    go_wp2
    go_roundw
    case measure => simp [intOf]; omega
    case rel => exact ⟨i + 1,c2,_,by omega,by go_num,rfl,hz,by rw [List.length_append,hol.out,List.length_singleton],hlo2.out,by rw [show n + 1 - (i + 1) = n - i by omega]; exact hset.out,hsb.out,hrnd.out⟩
   ·have dq : decide ((i : Int) < (q : Int)) = false:=decide_eq_false (by omega)
    have hy0 : y = 0:=by rw [← hy]; simp [List.getD,show l.length ≤ i by rw [hq.out]; omega]
    subst hy0
    clear hy
    replace hA:=Lib.hid hA
    replace hB':=Lib.hid hB'
    go_wp2_with fail
    refine hadd.out.mono ?_
    rintro e w' ⟨rfl,rfl⟩
    go_wp2
    go_roundw
    case measure => simp [intOf]; omega
    case rel => exact ⟨i + 1,c2,_,by omega,by go_num,rfl,hz,by rw [List.length_append,hol.out,List.length_singleton],hlo2.out,by rw [show n + 1 - (i + 1) = n - i by omega]; exact hset.out,hsb.out,hrnd.out⟩
  ·obtain rfl : i = n:=by omega
   have di : decide ((i : Int) < (i : Int)) = false:=decide_eq_false (by omega)
   have hol2 : (o ++ List.replicate (i + 1 - i) 0).length = i + 1:=by rw [List.length_append,List.length_replicate]; omega
   have iO:=fun w' => hO.at.idx i (by rw [hol2]; omega) w'
   have fO:=hO.frz i (by rw [hol2]; omega)
   obtain ⟨z0,cO⟩ : ∃ z,wo.cell? (valAt ov i) = some z:=⟨_,hO.at.cell i (by rw [hol2]; omega)⟩
   have hset:=hO.set i (by rw [hol2]; omega) c
   have hsb:=hO.setBelow hB i (by rw [hol2]; omega) (.int .u32 (c : Int))
   rw [show i + 1 - i = 0 + 1 by omega,set_zeros hol,List.replicate_zero,List.append_nil] at hset
   rw [natV_take_all (by rw [hn.out]; exact Nat.le_refl _),natV_take_all (by rw [hq.out]; exact hqn)] at hv
   have hval : natV (o ++ [c]) = natV l + natV m:=(by rw [natV_snoc,hol]; exact hv.trans (Nat.add_comm _ _))
   have hlim:=limbs_snoc hlo (show c < 4294967296 by omega)
   obtain ⟨po,hpo⟩ : ∃ p,valAt ov i = p:=⟨_,rfl⟩
   rw [hpo] at iO cO fO hset hsb
   replace hset:=Lib.hid hset
   replace hsb:=Lib.hid hsb
   replace hv:=Lib.hid hv
   replace hO:=Lib.hid hO
   replace hlo:=Lib.hid hlo
   replace hol:=Lib.hid hol
   replace hol2:=Lib.hid hol2
   replace hpo:=Lib.hid hpo
   replace hval:=Lib.hid hval
   replace hlim:=Lib.hid hlim
   go_wp2_with fail
   refine (norm_own w.heap.size _ _ _ _ hset.out hlim.out hval.out).mono ?_
   rintro e w' ⟨⟨x,rfl,hx⟩,rfl⟩
   replace hx:=Lib.hid hx
   go_wp2
   go_ret
   exact ⟨_,rfl,hsb.out,hx.out⟩
theorem nat_add (v u : Value) (l m : List Nat) (w : World) (h : LimbsAt w v l) (k : LimbsAt w u m) (hl : Limbs l) (hm : Limbs m) (hll : l.length ≤ 1000000) (hml : m.length ≤ 1000000) :
 Calls Tryz.prog 100 #[v,u] w (Ret1 (fun x w' => NumIs w.heap.size w' x (natV l + natV m)) w):=by
 by_cases hlt : l.length < m.length
 ·exact add_lt v u l m w h k hl hm hml hlt
 ·exact add_ge v u l m w h k hl hm hll (by omega)
set_option maxHeartbeats 1000000 in
/-- The division by a limb. -/
theorem nat_over (d : Nat) (v : Value) (l : List Nat) (w : World) (h : LimbsAt w v l) (hl : Limbs l) (hll : l.length ≤ 1000000) (hd : 1 ≤ d) (hd2 : d < 4294967296) :
 Calls Tryz.prog 104 #[v,.int .u32 (d : Int)] w (Ret3 (fun x y z w' => NumIs w.heap.size w' x (natV l / d) ∧ y = .int .u32 ((natV l % d : Nat) : Int) ∧ z = .nilIface) w):=by
 have l1:=h.len
 obtain ⟨n,hn⟩ : ∃ n,l.length = n:=⟨_,rfl⟩
 rw [hn] at l1
 obtain ⟨ov,w1,mk,ho,b1⟩:=run_makeNat (n : Int) n w rfl (by omega)
 have d1 : ((d : Int) == 0) = false:=by rw [beq_eq_false_iff_ne]; omega
 have hnb : n ≤ 1000000:=by omega
 replace h:=Lib.hid h
 replace hl:=Lib.hid hl
 replace ho:=Lib.hid ho
 replace hn:=Lib.hid hn
 go_enter Tryz.func104,Tryz.ntmps104
 go_wp2_with fail
 go_loopw [8,9] (fun rv iv wr => ∃ (i s : Nat) (o : List Nat),i ≤ n ∧ iv = .int .i64 ((i : Int) - 1) ∧ rv = .int .u32 (s : Int) ∧ s < d ∧ o.length = n - i ∧ Limbs o ∧ OwnN w.heap.size wr ov (List.replicate i 0 ++ o) ∧ Below w.heap.size w wr ∧ natV o * d + s = natV (l.drop i)) (fun _ iv _ => (intOf iv + 1).toNat)
 case atStart => exact ⟨n,0,[],Nat.le_refl _,rfl,rfl,hd,by simp,(fun x hx => by cases hx),by simpa using ho.out,b1,by rw [List.drop_of_length_le (by rw [hn.out]; exact Nat.le_refl _)]; simp [natV]⟩
 case round =>
  clear mk
  obtain ⟨i,s,o,hi,rfl,rfl,hs,hol,hlo,hO,hB,hv⟩:=hrel
  obtain ⟨wo,rfl⟩ : ∃ wo : World,wo = wr:=⟨_,rfl⟩
  by_cases hin : i = 0
  ·subst hin
   rw [List.drop_zero] at hv
   have hq : natV o = natV l / d ∧ s = natV l % d:=by
    rw [← hv,Nat.mul_comm,Nat.mul_add_div (by omega),Nat.div_eq_of_lt hs,Nat.mul_add_mod,Nat.mod_eq_of_lt hs]; exact ⟨rfl,rfl⟩
   rw [List.replicate_zero,List.nil_append] at hO
   have hO':=Lib.hid hO
   have hlo':=Lib.hid hlo
   have hq':=Lib.hid hq
   clear hO hlo hq
   replace hv:=Lib.hid hv
   have di : decide ((0 : Int) ≤ ((0 : Nat) : Int) - 1) = false:=by decide
   go_wp2_with fail
   refine (norm_own w.heap.size _ _ _ _ hO'.out hlo'.out hq'.out.1).mono ?_
   rintro e w' ⟨⟨x,rfl,hx⟩,rfl⟩
   replace hx:=Lib.hid hx
   go_wp2
   go_ret3
   exact ⟨_,_,_,rfl,hB,hx.out,by rw [hq'.out.2]; rfl,rfl⟩
  ·obtain ⟨j,rfl⟩ : ∃ j,i = j + 1:=⟨i - 1,by omega⟩
   have e1 : ((j + 1 : Nat) : Int) - 1 = (j : Int):=by omega
   rw [e1]
   have hA:=h.out.below hB
   have iA:=fun w' => hA.idx j (by rw [hn.out]; omega) w'
   have cA:=hA.cell j (by rw [hn.out]; omega)
   have xl:=limb_getD hl.out j
   have hol2 : (List.replicate (j + 1) 0 ++ o).length = n:=by rw [List.length_append,List.length_replicate,hol]; omega
   have iO:=fun w' => hO.at.idx j (by rw [hol2]; omega) w'
   have fO:=hO.frz j (by rw [hol2]; omega)
   obtain ⟨z0,cO⟩ : ∃ z,wo.cell? (valAt ov j) = some z:=⟨_,hO.at.cell j (by rw [hol2]; omega)⟩
   have hdr : l.drop j = l.getD j 0 :: l.drop (j + 1):=by
    rw [List.drop_eq_getElem_cons (by rw [hn.out]; omega)]; simp [List.getD,show j < l.length by rw [hn.out]; omega]
   obtain ⟨x,hx⟩ : ∃ x,l.getD j 0 = x:=⟨_,rfl⟩
   rw [hx] at cA xl hdr
   have hset:=hO.set j (by rw [hol2]; omega) ((s * 4294967296 + x) / d)
   have hsb:=hO.setBelow hB j (by rw [hol2]; omega) (.int .u32 (((s * 4294967296 + x) / d : Nat) : Int))
   have hse : (List.replicate (j + 1) 0 ++ o).set j ((s * 4294967296 + x) / d) = List.replicate j 0 ++ ((s * 4294967296 + x) / d :: o):=by
    rw [List.replicate_succ',List.append_assoc,List.set_append_right _ _ (by simp)]
    simp
   rw [hse] at hset
   have hst:=over_step (x:=x) hv
   have hql:=over_limb hs xl
   have hdv:=div32_any s x d wo hs xl hd2
   have hs2 : (s * 4294967296 + x) % d < d:=Nat.mod_lt _ (by omega)
   have hval : natV ((s * 4294967296 + x) / d :: o) * d + (s * 4294967296 + x) % d = natV (l.drop j):=by
    rw [hdr,natV,natV]; exact hst
   obtain ⟨pa,hpa⟩ : ∃ p,valAt v j = p:=⟨_,rfl⟩
   obtain ⟨po,hpo⟩ : ∃ p,valAt ov j = p:=⟨_,rfl⟩
   rw [hpa] at iA cA
   rw [hpo] at iO cO fO hset hsb
   obtain ⟨q,hq⟩ : ∃ q,(s * 4294967296 + x) / d = q:=⟨_,rfl⟩
   obtain ⟨s2,hs2'⟩ : ∃ q,(s * 4294967296 + x) % d = q:=⟨_,rfl⟩
   rw [hq] at hset hsb hql hdv hval
   rw [hs2'] at hdv hs2 hval
   have hlo2 : Limbs (q :: o):=fun z hz => by
    rcases List.mem_cons.1 hz with rfl | hz
    ·exact hql
    ·exact hlo z hz
   have di : decide ((0 : Int) ≤ (j : Int)) = true:=decide_eq_true (by omega)
   replace hset:=Lib.hid hset
   replace hsb:=Lib.hid hsb
   replace hval:=Lib.hid hval
   replace hv:=Lib.hid hv
   replace hO:=Lib.hid hO
   replace hlo:=Lib.hid hlo
   replace hlo2:=Lib.hid hlo2
   replace hol:=Lib.hid hol
   replace hol2:=Lib.hid hol2
   replace hx:=Lib.hid hx
   replace hq:=Lib.hid hq
   replace hs2':=Lib.hid hs2'
   replace hpa:=Lib.hid hpa
   replace hpo:=Lib.hid hpo
   replace hdr:=Lib.hid hdr
   replace hse:=Lib.hid hse
   replace hst:=Lib.hid hst
   replace hdv:=Lib.hid hdv
   replace hA:=Lib.hid hA
   clear e1
   go_wp2_with fail
   refine hdv.out.mono ?_
   rintro e w' ⟨rfl,m,rfl⟩
   go_wp2
   go_roundw
   case measure => simp [intOf]
   case rel => exact ⟨j,s2,_,by omega,by go_num,rfl,hs2,by rw [List.length_cons,hol.out]; omega,hlo2.out,hset.out,belowN hsb.out m,hval.out⟩
end Go.Proofs.YtjiadfblphdchaaGreatDoor
namespace Go.Proofs.YtjiadfblphdchaaGreatDoor
/-- The first j decimal digits, the last one of the number first. -/
def digN (x j : Nat) : List Int:=(List.range j).map fun i => ((x / 10 ^ i % 10 : Nat) : Int)
theorem digN_len (x j : Nat) : (digN x j).length = j:=by simp [digN]
theorem digN_succ (x j : Nat) : digN x (j + 1) = digN x j ++ [((x / 10 ^ j % 10 : Nat) : Int)]:=by simp [digN,List.range_succ]
theorem digN_syms (x j : Nat) : ∀ d ∈ digN x j,0 ≤ d ∧ d ≤ 9:=by
 intro d hd
 obtain ⟨i,_,rfl⟩:=List.mem_map.1 hd
 have:=Nat.mod_lt (x / 10 ^ i) (show 0 < 10 by decide)
 omega
/-- All digits, in lots of nine. -/
def digL : Nat → Nat → List Int
 | 0,_ => []
 | f + 1,n => if n = 0 then [] else digN (n % 1000000000) 9 ++ digL f (n / 1000000000)
theorem digL_zero (f : Nat) : digL f 0 = []:=by cases f <;> rfl
theorem digL_fuel (f : Nat) : ∀ g n,n ≤ f → n ≤ g → digL f n = digL g n:=by
 induction f with
 | zero => intro g n h _; obtain rfl : n = 0:=(by omega); rw [digL_zero,digL_zero]
 | succ f ih =>
  intro g n hf hg
  by_cases h0 : n = 0
  ·subst h0; rw [digL_zero,digL_zero]
  ·cases g with
   | zero => omega
   | succ g =>
    unfold digL
    rw [if_neg h0,if_neg h0]
    have : n / 1000000000 ≤ n / 2:=Nat.div_le_div_left (by decide) (by decide)
    rw [ih g (n / 1000000000) (by omega) (by omega)]
def digA (n : Nat) : List Int:=digL n n
theorem digA_zero : digA 0 = []:=rfl
theorem digA_pos {n : Nat} (h : n ≠ 0) : digA n = digN (n % 1000000000) 9 ++ digA (n / 1000000000):=by
 unfold digA
 obtain ⟨m,rfl⟩ : ∃ m,n = m + 1:=⟨n - 1,by omega⟩
 rw [digL,if_neg h]
 have : (m + 1) / 1000000000 ≤ (m + 1) / 2:=Nat.div_le_div_left (by decide) (by decide)
 rw [digL_fuel m ((m + 1) / 1000000000) _ (by omega) (Nat.le_refl _)]
theorem digA_syms (n : Nat) : ∀ d ∈ digA n,0 ≤ d ∧ d ≤ 9:=by
 unfold digA
 generalize hf : n = f
 have key : ∀ f n,∀ d ∈ digL f n,0 ≤ d ∧ d ≤ 9:=by
  intro f
  induction f with
  | zero => intro n d hd; cases hd
  | succ f ih =>
   intro n d hd
   unfold digL at hd
   split at hd
   ·cases hd
   ·rcases List.mem_append.1 hd with hd | hd
    ·exact digN_syms _ _ d hd
    ·exact ih _ d hd
 exact key f f
/-- A number's decimal digits. -/
def decL (n : Nat) : List Int:=match (digA n).reverse.dropWhile (fun d => decide (d = 0)) with | [] => [0] | l => l
theorem decL_small : decL 240 = [2,4,0]:=by decide
theorem decL_len (n : Nat) : (decL n).length ≤ (digA n).length + 1:=by
 unfold decL
 split
 ·simp
 ·rename_i h
  have:=(List.dropWhile_sublist (fun d => decide (d = 0)) (l:=(digA n).reverse)).length_le
  rw [List.length_reverse] at this
  omega
/-- How many lots there are. -/
theorem digL_len (f : Nat) : ∀ n k,n < 1000000000 ^ k → (digL f n).length ≤ 9 * k:=by
 induction f with
 | zero => intro n k _; simp [digL]
 | succ f ih =>
  intro n k h
  unfold digL
  split
  ·simp
  ·rename_i h0
   cases k with
   | zero => simp at h; omega
   | succ k =>
    rw [List.length_append,digN_len]
    have:=ih (n / 1000000000) k (by rw [Nat.pow_succ] at h; exact Nat.div_lt_of_lt_mul (by rw [Nat.mul_comm]; exact h))
    omega
theorem digA_len {N k : Nat} (h : N < 4294967296 ^ k) : (digA N).length ≤ 9 * (2 * k) :=
 digL_len N N _ (Nat.lt_of_lt_of_le h (by rw [Nat.pow_mul]; exact Nat.pow_le_pow_left (by decide) _))
end Go.Proofs.YtjiadfblphdchaaGreatDoor
namespace Go.Proofs.YtjiadfblphdchaaGreatDoor
open Go.RowKit
set_option maxRecDepth 100000
theorem oneBytes : OneCell 99 5 (.int .u8 0) 1:=⟨by kernel_rfl,by kernel_rfl,rfl,by decide,fun _ => by kernel_rfl⟩
theorem uByte : Tryz.prog.underlying 5 = some (.int .u8):=by kernel_rfl
theorem uStr : Tryz.prog.underlying 9 = some .string:=by kernel_rfl
/-- The digits of a word. -/
def dig8 (xs : List Int) : List Int:=xs.map fun x => 48 + x
def txtW (xs : List Int) : ByteArray:=strOfNums (dig8 xs)
def byteV (xs : List Int) : List Value:=(dig8 xs).map (Value.int .u8)
/-- append(s, y), one value laid just ahead. -/
theorem wpl_appV {T E : TypeId} {z : Value} {b : Nat} (oc : OneCell T E z b) {w : World} {ops : Array Oper} {rest : List Oper} {o : Oper} {a : Act} {Q : Exit → Act → World → Prop} (hgd : o.guard = none) (s x : Operand)
 (ho : o.op = .call { callee:=.builtin .append,args:=#[s,x],argTypes:=#[T,T] })
 (B : Nat) (v : Value) (xs : List Value) (y : Value) (hy : y.oneCell' = true) (hown : OwnV E B w v xs) (hs : a.eval s = v) (hx : a.eval x = .slice (some ⟨w.heap.size,0,none⟩) 1 1)
 (hlen : xs.length < 4398046511104) (hB : B ≤ w.heap.size)
 (h : ∀ v' w',OwnV E B w' v' (xs ++ [y]) → Below B w w' → wpList Tryz.prog ops Q rest (a.put o.dst v') w') :
 wpList Tryz.prog ops Q (o :: rest) a (w.alloc (.cells #[y] E)):=by
 refine wpList_plain hgd fun K hK => ?_
 obtain ⟨v',w',hr,h2,h3⟩:=run_app oc (w.alloc (.cells #[y] E)) B o.type v _ (hown.alloc _) ⟨w.heap.size,0,none⟩ 1 [y] (by simp) (cell_one_new _ _ _) (by simp [hy]) (by simp; omega) (by simp; omega)
 unfold Oper.wp execOp
 simp only [ho,resolve,invoke,builtin,Sem.run_bind,Sem.run_pure,Result.andThen_ok,List.map_toArray,List.map_cons,List.map_nil,hs,hx]
 rw [show ([y] : List Value).length = 1 from rfl] at hr
 rw [hr]
 have hal : ∀ row,w.grownBy (w.alloc (.cells #[y] E)) row:=fun row => World.grownBy_alloc w _ row
 rcases h3 with ⟨_,hg⟩ | ⟨_,hg⟩
 ·exact hK _ _ (h v' w' h2 ((Below.refl _ _).grown ((hal v.ownBlock).trans hg) hB (fun k hk => (hown.lt k hk).1)))
 ·exact hK _ _ (h v' w' h2 ((Below.refl _ _).grown ((hal none).trans hg) hB (by intro k hk; cases hk)))
theorem byteV_snoc (xs : List Int) (x : Int) : byteV (xs ++ [x]) = byteV xs ++ [.int .u8 (48 + x)]:=by simp [byteV,dig8]
theorem conv_bytes (B : Nat) (w : World) (v : Value) (xs : List Int) (h : OwnV 5 B w v (byteV xs)) (h1 : 1 ≤ xs.length) : (convert 99 9 v).run Tryz.prog w = .ok (.string (txtW xs)) w:=by
 have hl : (byteV xs).length = xs.length:=by simp [byteV,dig8]
 rcases h.2 with ⟨rfl,hn⟩ | ⟨g,cap,cur,rfl,hb,hg,hn,hm,hs,ht⟩
 ·omega
 ·refine run_convert_bytes_arg (P:=Tryz.prog) w 99 5 oneBytes.ht uByte g 0 (byteV xs).length cap (dig8 xs) (by simp [dig8,byteV]) (fun i hi => ?_) 9 uStr
  have:=h.at.cell i hi
  rw [valAt_row] at this
  rw [Nat.zero_add,this]
  have hi2 : i < xs.length:=by rw [← hl]; exact hi
  simp [byteV,List.getD,dig8,hi2]
end Go.Proofs.YtjiadfblphdchaaGreatDoor
namespace Go.Proofs.YtjiadfblphdchaaGreatDoor
open Go.RowKit Go.Shelf
set_option maxRecDepth 100000
def Tryz.laysTrimLeft_ren : Go.Shelf.Ren:=⟨fun | 161 => 105 | 231 => 130 | 227 => 131 | 233 => 132 | 235 => 133 | 228 => 158 | 197 => 159 | 151 => 160 | 260 => 177 | 152 => 178 | 137 => 184 | 119 => 185 | 224 => 186 | 225 => 187 | 217 => 188 | 266 => 189 | n => n,fun | 9 => 9 | 4 => 4 | 3 => 3 | 5 => 5 | 117 => 193 | 116 => 192 | 0 => 0 | 124 => 196 | 105 => 223 | 21 => 21 | 119 => 247 | 46 => 181 | 139 => 250 | 138 => 249 | n => n,fun | 3 => 14 | 4 => 15 | n => n⟩
theorem Tryz.laysTrimLeft : Go.Proofs.Lays.n161 Tryz.prog Tryz.laysTrimLeft_ren:={
 mixed:=by kernel_rfl
 f119:=Tryz.func185.trans (congrArg some (by kernel_rfl))
 f137:=Tryz.func184.trans (congrArg some (by kernel_rfl))
 f151:=Tryz.func160.trans (congrArg some (by kernel_rfl))
 f152:=Tryz.func178.trans (congrArg some (by kernel_rfl))
 f161:=Tryz.func105.trans (congrArg some (by kernel_rfl))
 f197:=Tryz.func159.trans (congrArg some (by kernel_rfl))
 f217:=Tryz.func188.trans (congrArg some (by kernel_rfl))
 f224:=Tryz.func186.trans (congrArg some (by kernel_rfl))
 f225:=Tryz.func187.trans (congrArg some (by kernel_rfl))
 f227:=Tryz.func131.trans (congrArg some (by kernel_rfl))
 f228:=Tryz.func158.trans (congrArg some (by kernel_rfl))
 f231:=Tryz.func130.trans (congrArg some (by kernel_rfl))
 f233:=Tryz.func132.trans (congrArg some (by kernel_rfl))
 f235:=Tryz.func133.trans (congrArg some (by kernel_rfl))
 f260:=Tryz.func177.trans (congrArg some (by kernel_rfl))
 f266:=Tryz.func189.trans (congrArg some (by kernel_rfl))
 t0:=Tryz.underlying0
 a0:=Tryz.isAgg0
 z0:=Tryz.sizeOf0
 v0:=Tryz.zeroValue0
 t3:=Tryz.underlying3
 a3:=Tryz.isAgg3
 z3:=Tryz.sizeOf3
 v3:=Tryz.zeroValue3
 t4:=Tryz.underlying4
 a4:=Tryz.isAgg4
 z4:=Tryz.sizeOf4
 v4:=Tryz.zeroValue4
 t5:=Tryz.underlying5
 a5:=Tryz.isAgg5
 z5:=Tryz.sizeOf5
 v5:=Tryz.zeroValue5
 t9:=Tryz.underlying9
 a9:=Tryz.isAgg9
 z9:=Tryz.sizeOf9
 v9:=Tryz.zeroValue9
 t21:=Tryz.underlying21
 a21:=Tryz.isAgg21
 z21:=Tryz.sizeOf21
 v21:=Tryz.zeroValue21
 t46:=Tryz.underlying181
 a46:=Tryz.isAgg181
 z46:=Tryz.sizeOf181
 v46:=Tryz.zeroValue181
 t105:=Tryz.underlying223
 a105:=Tryz.isAgg223
 z105:=Tryz.sizeOf223
 v105:=Tryz.zeroValue223
 t116:=Tryz.underlying192
 a116:=Tryz.isAgg192
 z116:=Tryz.sizeOf192
 t117:=Tryz.underlying193
 a117:=Tryz.isAgg193
 z117:=Tryz.sizeOf193
 v117:=Tryz.zeroValue193
 t119:=Tryz.underlying247
 a119:=Tryz.isAgg247
 z119:=Tryz.sizeOf247
 t124:=Tryz.underlying196
 a124:=Tryz.isAgg196
 z124:=Tryz.sizeOf196
 v124:=Tryz.zeroValue196
 t138:=Tryz.underlying249
 a138:=Tryz.isAgg249
 z138:=Tryz.sizeOf249
 v138:=Tryz.zeroValue249
 t139:=Tryz.underlying250
 a139:=Tryz.isAgg250
 z139:=Tryz.sizeOf250
 v139:=Tryz.zeroValue250
 g3:=by kernel_rfl
 g4:=by kernel_rfl }
theorem trimLeft0 (s : ByteArray) (w : World) :
 Calls Tryz.prog 105 #[.string s,.string ⟨#[48]⟩] w fun e w' => e = .returned (.string ⟨(s.data.toList.dropWhile (· == 48)).toArray⟩) ∧ w' = w :=
 Any.strings_TrimLeft_one Tryz.laysTrimLeft s 48 (by decide) w
theorem norm_lower {l : List Nat} (hn : Norm l) (hne : l ≠ []) : 4294967296 ^ (l.length - 1) ≤ natV l:=by
 obtain ⟨b,x,rfl⟩ : ∃ b x,l = b ++ [x]:=⟨l.dropLast,l.getLast hne,(List.dropLast_concat_getLast hne).symm⟩
 have hx : x ≠ 0:=by have:=hn hne; simpa using this
 rw [natV_snoc,List.length_append,List.length_singleton,Nat.add_sub_cancel]
 have:=Nat.mul_le_mul_left (4294967296 ^ b.length) (show 1 ≤ x by omega)
 omega
theorem norm_len {l : List Nat} (hn : Norm l) {k : Nat} (h : natV l < 4294967296 ^ k) : l.length ≤ k:=by
 by_cases hne : l = []
 ·subst hne; simp
 ·have h1:=norm_lower hn hne
  have h2 : 4294967296 ^ (l.length - 1) < 4294967296 ^ k:=Nat.lt_of_le_of_lt h1 h
  have h3:=(Nat.pow_lt_pow_iff_right (show 1 < 4294967296 by decide)).1 h2
  omega
theorem norm_zero {l : List Nat} (hn : Norm l) (h : natV l = 0) : l = []:=by
 apply Classical.byContradiction
 intro hne
 have h1:=norm_lower hn hne
 have h2 : 0 < 4294967296 ^ (l.length - 1):=Nat.pow_pos (by decide)
 omega
theorem trim_digits (xs : List Int) (h : ∀ d ∈ xs,0 ≤ d ∧ d ≤ 9) : (txtW xs).data.toList.dropWhile (· == 48) = (txtW (xs.dropWhile fun d => decide (d = 0))).data.toList:=by
 unfold txtW
 rw [strOfNums_data,strOfNums_data]
 unfold dig8
 induction xs with
 | nil => rfl
 | cons x xs ih =>
  have hx:=h x (by simp)
  have ih':=ih fun d hd => h d (by simp [hd])
  rw [List.map_cons,List.map_cons,List.dropWhile_cons,List.dropWhile_cons]
  by_cases e : x = 0
  ·subst e
   rw [if_pos (by decide),if_pos (by decide)]; exact ih'
  ·have e2 : (UInt8.ofNat (48 + x).toNat == 48) = false:=by
    rw [beq_eq_false_iff_ne]
    intro q
    have:=congrArg UInt8.toNat q
    simp [UInt8.toNat_ofNat'] at this
    omega
   rw [if_neg (by rw [e2]; decide),if_neg (by simp [e]),List.map_cons,List.map_cons]
theorem txtW_empty (E : List Int) : (⟨(txtW E).data⟩ : ByteArray).toList.isEmpty = E.isEmpty:=by
 rw [Lib.toList_data]
 show (txtW E).data.toList.isEmpty = _
 unfold txtW
 rw [strOfNums_data]
 cases E <;> rfl
theorem conv_empty (B : Nat) (w : World) (v : Value) (h : OwnV 5 B w v (byteV [])) : (convert 99 9 v).run Tryz.prog w = .ok (.string (txtW [])) w:=by
 rcases h.2 with ⟨rfl,hn⟩ | ⟨g,cap,cur,rfl,hb,hg,hn,hm,hs,ht⟩
 ·exact run_convert_bytes_nil w 99 5 oneBytes.ht uByte 0 0 9 uStr
 ·exact run_convert_bytes_arg (P:=Tryz.prog) w 99 5 oneBytes.ht uByte g 0 0 cap [] rfl (fun i hi => absurd hi (Nat.not_lt_zero _)) 9 uStr
theorem conv_any (B : Nat) (w : World) (v : Value) (xs : List Int) (h : OwnV 5 B w v (byteV xs)) : (convert 99 9 v).run Tryz.prog w = .ok (.string (txtW xs)) w:=by
 by_cases hx : xs = []
 ·subst hx; exact conv_empty B w v h
 ·exact conv_bytes B w v xs h (by have:=List.length_pos_iff.2 hx; omega)
theorem run_makeV0 {T E : TypeId} {z : Value} {b : Nat} (oc : OneCell T E z b) (n : Nat) (w : World) (hn : n ≤ 4398046511104) :
 ∃ v w',(Instr.makeSlice T (.int .i64 0) (.int .i64 (n : Int))).run Tryz.prog w = .ok v w' ∧ OwnV E w.heap.size w' v [] ∧ Below w.heap.size w w':=by
 obtain ⟨i,hi,hz0,hz1,hz2⟩:=info_parts oc.hi
 have hb:=oc.hb
 obtain ⟨w',hrun,r1,r2⟩:=run_make_own (P:=Tryz.prog) w w.heap.size T E i z 1 oc.ht hi hz0 hz1 .i64 .i64 n (by
  rw [hz2]
  calc b * n ≤ 32 * 4398046511104:=Nat.mul_le_mul hb (by omega)
   _ ≤ _:=by decide) (by unfold maxLen; omega) (Nat.le_refl _)
 exact ⟨_,w',hrun,r1,(Below.refl _ _).grown r2 (Nat.le_refl _) (by intro k hk; cases hk)⟩
theorem ValsAt.uniq {w : World} {v : Value} {xs ys : List Value} (h : ValsAt w v xs) (k : ValsAt w v ys) : xs = ys:=by
 have e : xs.length = ys.length:=by
  obtain ⟨a,cap,e,_⟩:=h
  obtain ⟨b,cap',e',_⟩:=k
  rw [e] at e'; injection e'
 refine List.ext_getElem e fun i h1 h2 => ?_
 have c1:=h.cell i h1
 rw [k.cell i h2] at c1
 exact (Option.some.inj c1).symm
theorem limbs_inj {l m : List Nat} (h : limbs l = limbs m) : l = m:=by
 unfold limbs at h
 refine (List.map_inj_right ?_).1 h
 intro x y e
 injection e with _ e
 exact Int.ofNat.inj e
/-- The number that lies there. -/
noncomputable def valN (w : World) (v : Value) : Nat:=open Classical in if h : ∃ l,LimbsAt w v l then natV h.choose else 0
theorem valN_eq {w : World} {v : Value} {l : List Nat} (h : LimbsAt w v l) : valN w v = natV l:=by
 unfold valN
 have he : ∃ l,LimbsAt w v l:=⟨l,h⟩
 rw [dif_pos he,limbs_inj (he.choose_spec.uniq h)]
/-- The cells of a slice lie in no room of another's. -/
def Off (v : Value) (n : Nat) (u : Value) : Prop:=∀ i,i < n → u.ownBlock ≠ some (valAt v i).block
/-- append(s, y), one value laid just ahead; another slice's cells stay. -/
theorem wpl_appO {T E : TypeId} {z : Value} {b : Nat} (oc : OneCell T E z b) {w : World} {ops : Array Oper} {rest : List Oper} {o : Oper} {a : Act} {Q : Exit → Act → World → Prop} (hgd : o.guard = none) (s x : Operand)
 (ho : o.op = .call { callee:=.builtin .append,args:=#[s,x],argTypes:=#[T,T] })
 (B : Nat) (v : Value) (xs : List Value) (y : Value) (hy : y.oneCell' = true) (hown : OwnV E B w v xs) (hs : a.eval s = v) (hx : a.eval x = .slice (some ⟨w.heap.size,0,none⟩) 1 1)
 (hlen : xs.length < 4398046511104) (hB : B ≤ w.heap.size) (av : Value) (l : List Nat) (hav : LimbsAt w av l) (hoff : Off av l.length v)
 (h : ∀ v' w',OwnV E B w' v' (xs ++ [y]) → Below B w w' → LimbsAt w' av l → Off av l.length v' → wpList Tryz.prog ops Q rest (a.put o.dst v') w') :
 wpList Tryz.prog ops Q (o :: rest) a (w.alloc (.cells #[y] E)):=by
 refine wpList_plain hgd fun K hK => ?_
 obtain ⟨v',w',hr,h2,h3⟩:=run_app oc (w.alloc (.cells #[y] E)) B o.type v _ (hown.alloc _) ⟨w.heap.size,0,none⟩ 1 [y] (by simp) (cell_one_new _ _ _) (by simp [hy]) (by simp; omega) (by simp; omega)
 unfold Oper.wp execOp
 simp only [ho,resolve,invoke,builtin,Sem.run_bind,Sem.run_pure,Result.andThen_ok,List.map_toArray,List.map_cons,List.map_nil,hs,hx]
 rw [show ([y] : List Value).length = 1 from rfl] at hr
 rw [hr]
 have hal : ∀ row,w.grownBy (w.alloc (.cells #[y] E)) row:=fun row => World.grownBy_alloc w _ row
 have hcells : ∀ row,w.grownBy w' row → (row = none ∨ row = v.ownBlock) → LimbsAt w' av l:=fun row hg hrow => by
  refine ValsAt.cells_eq hav fun i hi => ?_
  rw [limbs_len] at hi
  have hlt:=World.block_lt_of_cell? _ _ (hav.cell i hi)
  have hne : some (valAt av i).block ≠ row:=by
   rcases hrow with rfl | rfl
   ·simp
   ·exact fun e => hoff i hi e.symm
  exact World.cell?_of_block (hg.block (valAt av i).block hlt hne)
 rcases h3 with ⟨hroom,hg⟩ | ⟨hk,hg⟩
 ·have hg2:=(hal v.ownBlock).trans hg
  refine hK _ _ (h v' w' h2 ((Below.refl _ _).grown hg2 hB (fun k hk => (hown.lt k hk).1)) (hcells _ hg2 (.inr rfl)) fun i hi => ?_)
  obtain ⟨va,vn,vc,hv⟩:=hown.shape
  obtain ⟨va',vn',vc',hv'⟩:=h2.shape
  rw [ownBlock_of_room hv hv' hroom]
  exact hoff i hi
 ·have hg2:=(hal none).trans hg
  refine hK _ _ (h v' w' h2 ((Below.refl _ _).grown hg2 hB (by intro k hk; cases hk)) (hcells _ hg2 (.inl rfl)) fun i hi => ?_)
  have hlt:=World.block_lt_of_cell? _ _ (hav.cell i hi)
  rw [hk]
  intro e
  injection e with e
  simp at e
  omega
set_option maxHeartbeats 2000000 in
theorem nat_text (v : Value) (l : List Nat) (w : World) (h : LimbsAt w v l) (hl : Limbs l) (hll : l.length ≤ 100000) :
 Calls Tryz.prog 65 #[v] w (Ret1 (fun x _ => x = .string (txtW (decL (natV l)))) w):=by
 obtain ⟨N,hN⟩ : ∃ N,natV l = N:=⟨_,rfl⟩
 have hNl : N < 4294967296 ^ l.length:=by rw [← hN]; exact natV_lt hl
 have hDL : (digA N).length ≤ 9 * (2 * l.length):=digL_len N N _ (by
  refine Nat.lt_of_lt_of_le hNl ?_
  rw [Nat.pow_mul]
  exact Nat.pow_le_pow_left (by decide) _)
 obtain ⟨L,hL⟩ : ∃ L,l.length = L:=⟨_,rfl⟩
 rw [hL] at hNl hDL hll
 have hL2 : (digA N).length ≤ 2000000:=by omega
 rw [hN]
 replace h:=Lib.hid h
 replace hl:=Lib.hid hl
 replace hN:=Lib.hid hN
 replace hL:=Lib.hid hL
 replace hNl:=Lib.hid hNl
 go_enter Tryz.func65,Tryz.ntmps65
 go_wp2_with fail
 refine (norm_any v l w h.out).mono ?_
 rintro e w' ⟨m0,hm0,rfl,hn0,hv0,rfl⟩
 have ha0:=h.out.cut hm0
 have hlm0:=limbs_take_mem hl.out m0
 replace ha0:=Lib.hid ha0
 replace hlm0:=Lib.hid hlm0
 replace hn0:=Lib.hid hn0
 replace hv0:=Lib.hid hv0
 obtain ⟨a0,hqa⟩ : ∃ a,cutAt v m0 = a:=⟨_,rfl⟩
 rw [hqa] at ha0 ⊢
 replace hqa:=Lib.hid hqa
 go_wp2_with fail
 go_loopw [0,3] (fun av dv wr => ∃ (u x : Value) (m : List Nat) (D : List Int),u = av ∧ x = dv ∧ LimbsAt wr u m ∧ Limbs m ∧ Norm m ∧ natV m < 4294967296 ^ L ∧ OwnV 5 w.heap.size wr x (byteV D) ∧ Off u m.length x ∧ Below w.heap.size w wr ∧ D ++ digA (natV m) = digA N) (fun av _ wr => valN wr av)
 case atStart => exact ⟨_,_,_,[],rfl,rfl,ha0.out,hlm0.out,hn0.out,by rw [hv0.out,hN.out]; exact hNl.out,OwnV.nil _ _ _,(fun i _ => by simp [Value.ownBlock]),Below.refl _ _,by rw [hv0.out,hN.out]; rfl⟩
 case round =>
  obtain ⟨u,x,m,D,rfl,rfl,hA,hlm,hnm,hml,hD,hoff,hB,hdig⟩:=hrel
  obtain ⟨wo,rfl⟩ : ∃ wo : World,wo = wr:=⟨_,rfl⟩
  have lA:=hA.len
  by_cases hz : m = []
  ·subst hz
   have hDe : D = digA N:=by
    rw [show natV [] = 0 from rfl,digA_zero,List.append_nil] at hdig; exact hdig
   have hDsy:=digA_syms N
   have hlD : (byteV D).length = D.length:=by simp [byteV,dig8]
   have lD:=ValsAt.len oneBytes hD.at 3
   rw [hlD] at lD
   have hDb : D.length ≤ 2000000:=by rw [hDe]; exact hL2
   obtain ⟨q,hq⟩ : ∃ q,D.length = q:=⟨_,rfl⟩
   rw [hq] at lD hDb
   replace hA:=Lib.hid hA
   replace hlm:=Lib.hid hlm
   replace hnm:=Lib.hid hnm
   replace hml:=Lib.hid hml
   replace hoff:=Lib.hid hoff
   replace hdig:=Lib.hid hdig
   replace hDe:=Lib.hid hDe
   replace hDsy:=Lib.hid hDsy
   replace hlD:=Lib.hid hlD
   replace hq:=Lib.hid hq
   replace hD:=Lib.hid hD
   obtain ⟨ov,w2,mk,ho2,b2⟩:=run_makeV0 oneBytes q wo (by omega)
   have hD2:=hD.out.at
   replace ho2:=Lib.hid ho2
   replace hD2:=Lib.hid hD2
   go_wp2_with fail
   go_loopw [5,6] (fun ov iv wr => ∃ (i : Nat) (u : Value),u = ov ∧ i ≤ q ∧ iv = .int .i64 ((i : Int) - 1) ∧ OwnV 5 wo.heap.size wr u (byteV (D.drop i).reverse) ∧ Below wo.heap.size wo wr) (fun _ iv _ => (intOf iv + 1).toNat)
   case atStart => exact ⟨q,_,rfl,Nat.le_refl _,rfl,by rw [List.drop_of_length_le (by rw [hq.out]; exact Nat.le_refl _)]; exact ho2.out,b2⟩
   case round =>
    clear ho2 mk
    obtain ⟨i,ou,rfl,hi,rfl,hO,hC⟩:=hrel
    obtain ⟨wi,rfl⟩ : ∃ wo : World,wo = wr:=⟨_,rfl⟩
    by_cases hi0 : i = 0
    ·subst hi0
     rw [List.drop_zero] at hO
     have hc:=conv_any wo.heap.size wi ou D.reverse hO
     have htr:=trimLeft0 (txtW D.reverse) wi
     rw [trim_digits D.reverse (fun d hd => by rw [hDe.out] at hd; exact hDsy.out d (List.mem_reverse.1 hd))] at htr
     obtain ⟨E,hE⟩ : ∃ E,D.reverse.dropWhile (fun d => decide (d = 0)) = E:=⟨_,rfl⟩
     rw [hE] at htr
     have hbb:=Below.step hB hC
     have di : decide ((0 : Int) ≤ ((0 : Nat) : Int) - 1) = false:=by decide
     obtain ⟨S,hS⟩ : ∃ S,txtW D.reverse = S:=⟨_,rfl⟩
     rw [hS] at hc htr
     have hdec : decL N = (match D.reverse.dropWhile (fun d => decide (d = 0)) with | [] => [0] | l => l):=by rw [hDe.out]; rfl
     rw [hE] at hdec
     have hem:=txtW_empty E
     replace hdec:=Lib.hid hdec
     replace hE:=Lib.hid hE
     replace hS:=Lib.hid hS
     replace htr:=Lib.hid htr
     replace hO:=Lib.hid hO
     obtain ⟨oa,on,oc,rfl⟩:=hO.out.shape
     go_wp2_with fail
     refine htr.out.mono ?_
     rintro e w' ⟨rfl,rfl⟩
     cases E with
     | nil =>
      have hem2 : ({ data:=(txtW []).data } : ByteArray).toList.isEmpty = true:=hem
      go_wp2
      go_ret
      exact ⟨_,rfl,hbb,by rw [hdec.out]; rfl⟩
     | cons d E =>
      have hem2 : ({ data:=(txtW (d :: E)).data } : ByteArray).toList.isEmpty = false:=hem
      go_wp2
      go_ret
      exact ⟨_,rfl,hbb,by rw [hdec.out]; rfl⟩
    ·obtain ⟨j,rfl⟩ : ∃ j,i = j + 1:=⟨i - 1,by omega⟩
     have e1 : ((j + 1 : Nat) : Int) - 1 = (j : Int):=by omega
     rw [e1]
     clear e1
     have hX:=hD2.out.below hC
     have hjl : j < (byteV D).length:=by rw [hlD.out,hq.out]; omega
     have iX:=fun w' => hX.idx oneBytes j hjl w'
     have cX:=hX.cell j hjl
     have hjD : j < D.length:=by rw [hq.out]; omega
     have hbe : (byteV D)[j]'hjl = .int .u8 (48 + D[j]):=by simp [byteV,dig8]
     rw [hbe] at cX
     have hrev : (D.drop j).reverse = (D.drop (j + 1)).reverse ++ [D[j]]:=by rw [List.drop_eq_getElem_cons hjD,List.reverse_cons]
     have hbv:=byteV_snoc (D.drop (j + 1)).reverse D[j]
     rw [← hrev] at hbv
     obtain ⟨y,hy⟩ : ∃ y,D[j]'hjD = y:=⟨_,rfl⟩
     rw [hy] at cX hbv
     obtain ⟨p,hp⟩ : ∃ p,valAt x j = p:=⟨_,rfl⟩
     rw [hp] at iX cX
     have hlb : (byteV (D.drop (j + 1)).reverse).length < 4398046511104:=by simp [byteV,dig8]; rw [hq.out]; omega
     have hCs:=hC.size
     have di : decide ((0 : Int) ≤ (j : Int)) = true:=decide_eq_true (by omega)
     replace hX:=Lib.hid hX
     replace hbe:=Lib.hid hbe
     replace hrev:=Lib.hid hrev
     replace hbv:=Lib.hid hbv
     replace hy:=Lib.hid hy
     replace hp:=Lib.hid hp
     go_wp2_with (at_builtin; go_loud (refine wpl_appV oneBytes rfl _ _ rfl wo.heap.size ou _ (.int .u8 (48 + y)) rfl hO rfl rfl hlb hCs ?_))
     intro v' w7 ho7 b7
     rw [← hbv.out] at ho7
     obtain ⟨v7a,v7b,v7c,rfl⟩:=ho7.shape
     replace ho7:=Lib.hid ho7
     clear hO
     go_wp2
     go_roundw
     case measure => simp [intOf]
     case rel => exact ⟨j,_,rfl,by omega,by go_num,ho7.out,hC.trans b7⟩
  ·have hm1 : 1 ≤ m.length:=by have:=List.length_pos_iff.2 hz; omega
   have hmL : m.length ≤ L:=norm_len hnm hml
   have hpos : natV m ≠ 0:=fun e => hz (norm_zero hnm e)
   have hov : Calls Tryz.prog 104 #[u,.int .u32 1000000000] wo (Ret3 (fun x y z w' => NumIs wo.heap.size w' x (natV m / 1000000000) ∧ y = .int .u32 ((natV m % 1000000000 : Nat) : Int) ∧ z = .nilIface) wo):=nat_over 1000000000 u m wo hA hlm (by omega) (by decide) (by decide)
   have hval:=valN_eq hA
   have hdp:=digA_pos hpos
   have hql : natV m / 1000000000 < 4294967296 ^ L:=Nat.lt_of_le_of_lt (Nat.div_le_self _ _) hml
   have hqs : natV m / 1000000000 < natV m:=Nat.div_lt_self (by omega) (by decide)
   have hrl : natV m % 1000000000 < 1000000000:=Nat.mod_lt _ (by decide)
   have hlenD : D.length + 9 ≤ 2000000:=by
    have:=congrArg List.length hdig
    rw [hdp,List.length_append,List.length_append,digN_len] at this
    omega
   obtain ⟨V,hV⟩ : ∃ V,natV m = V:=⟨_,rfl⟩
   rw [hV] at hov hval hdp hql hqs hrl hdig
   rw [hdp] at hdig
   obtain ⟨qv,hqv⟩ : ∃ q,V / 1000000000 = q:=⟨_,rfl⟩
   obtain ⟨rv,hrv⟩ : ∃ r,V % 1000000000 = r:=⟨_,rfl⟩
   rw [hqv] at hov hql hqs hdig
   rw [hrv] at hov hrl hdig
   have hm2 : ¬ m.length = 0:=by omega
   obtain ⟨ml,hmlen⟩ : ∃ k,m.length = k:=⟨_,rfl⟩
   rw [hmlen] at lA hm1 hm2
   replace hmlen:=Lib.hid hmlen
   replace hA:=Lib.hid hA
   replace hlm:=Lib.hid hlm
   replace hnm:=Lib.hid hnm
   replace hml:=Lib.hid hml
   replace hoff:=Lib.hid hoff
   replace hdig:=Lib.hid hdig
   replace hdp:=Lib.hid hdp
   replace hql:=Lib.hid hql
   replace hV:=Lib.hid hV
   replace hqv:=Lib.hid hqv
   replace hrv:=Lib.hid hrv
   replace hval:=Lib.hid hval
   replace hov:=Lib.hid hov
   replace hD:=Lib.hid hD
   clear hz hpos
   go_wp2_with fail
   refine hov.out.mono ?_
   rintro e w3 ⟨av,_,_,rfl,b3,⟨l3,ho3,hl3,hn3,hv3⟩,rfl,rfl⟩
   have hD3:=hD.out.below b3
   have b03:=Below.step hB b3
   have hoff3 : Off av l3.length x:=fun i hi e => by
    have h1:=ho3.blkB i hi
    have h2:=hD.out.lt _ e
    omega
   have hA3:=ho3.at
   replace hA3:=Lib.hid hA3
   replace ho3:=Lib.hid ho3
   replace hl3:=Lib.hid hl3
   replace hn3:=Lib.hid hn3
   replace hv3:=Lib.hid hv3
   replace hoff3:=Lib.hid hoff3
   replace hD3:=Lib.hid hD3
   go_wp2_with fail
   go_loopw [3,4,19] (fun dv rv' jv wr => ∃ (j : Nat) (y : Value),y = dv ∧ j ≤ 9 ∧ jv = .int .i64 j ∧ rv' = .int .u32 ((rv / 10 ^ j : Nat) : Int) ∧ OwnV 5 w.heap.size wr y (byteV (D ++ digN rv j)) ∧ LimbsAt wr av l3 ∧ Off av l3.length y ∧ Below w.heap.size w wr) (fun _ _ jv _ => 9 - (intOf jv).toNat)
   case atStart => exact ⟨0,_,rfl,by omega,rfl,by simp,by simpa [digN] using hD3.out,hA3.out,hoff3.out,b03⟩
   case round =>
    clear hD3
    obtain ⟨j,y,rfl,hj,rfl,rfl,hO,hAj,hOf,hBj⟩:=hrel
    obtain ⟨wi,rfl⟩ : ∃ wo : World,wo = wr:=⟨_,rfl⟩
    by_cases hj9 : j < 9
    ·have dj : decide ((j : Int) < 9) = true:=decide_eq_true (by omega)
     have hr10 : rv / 10 ^ j / 10 = rv / 10 ^ (j + 1):=by rw [Nat.div_div_eq_div_mul,Nat.pow_succ]
     have hsn:=digN_succ rv j
     have hbv:=byteV_snoc (D ++ digN rv j) ((rv / 10 ^ j % 10 : Nat) : Int)
     rw [List.append_assoc,← hsn] at hbv
     have hRl : rv / 10 ^ j < 4294967296:=Nat.lt_of_le_of_lt (Nat.div_le_self _ _) (by omega)
     obtain ⟨R,hR⟩ : ∃ R,rv / 10 ^ j = R:=⟨_,rfl⟩
     rw [hR] at hr10 hbv hRl ⊢
     have hd10:=Nat.mod_lt R (show 0 < 10 by decide)
     obtain ⟨d,hd⟩ : ∃ d,R % 10 = d:=⟨_,rfl⟩
     rw [hd] at hbv hd10
     obtain ⟨R2,hR2⟩ : ∃ R2,R / 10 = R2:=⟨_,rfl⟩
     rw [hR2] at hr10
     have f1 : (R : Int).tmod 10 = (d : Int):=by rw [Int.tmod_eq_emod_of_nonneg (by omega)]; omega
     have f2 : (R : Int) % 10 = (d : Int):=by omega
     have f3 : (R : Int).tdiv 10 = (R2 : Int):=by rw [Int.tdiv_eq_ediv_of_nonneg (by omega)]; omega
     have f4 : (R : Int) / 10 = (R2 : Int):=by omega
     have hlb : (byteV (D ++ digN rv j)).length < 4398046511104:=by simp [byteV,dig8,digN]; omega
     have hBs:=hBj.size
     have hR2l : R2 < 4294967296:=by omega
     replace hr10:=Lib.hid hr10
     replace hsn:=Lib.hid hsn
     replace hbv:=Lib.hid hbv
     replace hR:=Lib.hid hR
     replace hd:=Lib.hid hd
     replace hR2:=Lib.hid hR2
     go_wp2_with (at_builtin; go_loud (refine wpl_appO oneBytes rfl _ _ rfl w.heap.size y _ (.int .u8 (48 + (d : Int))) rfl hO rfl rfl hlb hBs av l3 hAj hOf ?_))
     intro v' w7 ho7 b7 hA7 hOf7
     rw [← hbv.out] at ho7
     obtain ⟨v7a,v7b,v7c,rfl⟩:=ho7.shape
     replace ho7:=Lib.hid ho7
     replace hA7:=Lib.hid hA7
     replace hOf7:=Lib.hid hOf7
     replace hAj:=Lib.hid hAj
     replace hOf:=Lib.hid hOf
     clear hO
     go_wp2
     go_roundw
     case measure => simp [intOf]; omega
     case rel => exact ⟨j + 1,_,rfl,by omega,by go_num,by rw [hr10.out],ho7.out,hA7.out,hOf7.out,hBj.trans b7⟩
    ·obtain rfl : j = 9:=by omega
     have hv9:=valN_eq hAj
     replace hv9:=Lib.hid hv9
     replace hO:=Lib.hid hO
     replace hAj:=Lib.hid hAj
     replace hOf:=Lib.hid hOf
     go_wp2
     go_roundw
     case measure => rw [hv9.out,hval.out,hv3.out]; exact hqs
     case rel => exact ⟨_,_,l3,D ++ digN rv 9,rfl,rfl,hAj.out,hl3.out,hn3.out,by rw [hv3.out]; exact hql.out,hO.out,hOf.out,hBj,by rw [hv3.out,List.append_assoc]; exact hdig.out⟩
end Go.Proofs.YtjiadfblphdchaaGreatDoor
namespace Go.Proofs.YtjiadfblphdchaaGreatDoor
open Go.RowKit
set_option maxRecDepth 100000
theorem add_mul_lt {x y z c : Nat} (hx : x < 4294967296) (hy : y < 4294967296) (hz : z < 4294967296) (hc : c < 4294967296) : x * y + z + c < 18446744073709551616:=by
 have h1 : x * y ≤ 4294967295 * 4294967295:=Nat.mul_le_mul (by omega) (by omega)
 omega
theorem limbs_setM {o : List Nat} {i x : Nat} (h : Limbs o) (hx : x < 4294967296) : Limbs (o.set i x):=fun y hy => by
 rcases List.mem_or_eq_of_mem_set hy with hy | rfl
 ·exact h y hy
 ·exact hx
/-- All limbs from k on are zero. -/
def ZeroFrom (k : Nat) (o : List Nat) : Prop:=∀ j,k ≤ j → o.getD j 0 = 0
set_option maxHeartbeats 2000000 in
theorem nat_mul (v u : Value) (l m : List Nat) (w : World) (h : LimbsAt w v l) (k : LimbsAt w u m) (hl : Limbs l) (hm : Limbs m) (hll : l.length ≤ 1000000) (hml : m.length ≤ 1000000) :
 Calls Tryz.prog 101 #[v,u] w (Ret1 (fun x w' => NumIs w.heap.size w' x (natV l * natV m)) w):=by
 have l1:=h.len
 have l2:=k.len
 obtain ⟨n,hn⟩ : ∃ n,l.length = n:=⟨_,rfl⟩
 obtain ⟨q,hq⟩ : ∃ q,m.length = q:=⟨_,rfl⟩
 have hnb : n ≤ 1000000:=by omega
 have hqb : q ≤ 1000000:=by omega
 rw [hn] at l1
 rw [hq] at l2
 obtain ⟨ov,w1,mk,ho,b1⟩:=run_makeNat ((n : Int) + (q : Int)) (n + q) w (by omega) (by omega)
 replace h:=Lib.hid h
 replace k:=Lib.hid k
 replace hl:=Lib.hid hl
 replace hm:=Lib.hid hm
 replace ho:=Lib.hid ho
 replace hn:=Lib.hid hn
 replace hq:=Lib.hid hq
 go_enter Tryz.func101,Tryz.ntmps101
 go_wp2_with fail
 go_loopw [20] (fun iv wr => ∃ (i : Nat) (o : List Nat),i ≤ n ∧ iv = .int .i64 i ∧ o.length = n + q ∧ Limbs o ∧ ZeroFrom (i + q) o ∧ OwnN w.heap.size wr ov o ∧ Below w.heap.size w wr ∧ natV o = natV (l.take i) * natV m) (fun iv _ => n - (intOf iv).toNat)
 case atStart => exact ⟨0,_,Nat.zero_le _,rfl,by simp,(fun x hx => by rw [List.eq_of_mem_replicate hx]; decide),(fun j _ => by simp [List.getD,List.getElem?_replicate]; split <;> rfl),ho.out,b1,by rw [natV_zeros]; simp [natV]⟩
 case round =>
  clear mk
  obtain ⟨i,o,hi,rfl,hol,hlo,hz,hO,hB,hv⟩:=hrel
  obtain ⟨wo,rfl⟩ : ∃ wo : World,wo = wr:=⟨_,rfl⟩
  by_cases hin : i < n
  ·have di : decide ((i : Int) < (n : Int)) = true:=decide_eq_true (by omega)
   have hA:=h.out.below hB
   have iA:=fun w' => hA.idx i (by rw [hn.out]; exact hin) w'
   have cA:=hA.cell i (by rw [hn.out]; exact hin)
   have xl:=limb_getD hl.out i
   have hvA:=natV_take_succ l i
   obtain ⟨x,hx⟩ : ∃ x,l.getD i 0 = x:=⟨_,rfl⟩
   rw [hx] at cA xl hvA
   obtain ⟨pa,hpa⟩ : ∃ p,valAt v i = p:=⟨_,rfl⟩
   rw [hpa] at iA cA
   have hz0 : ∀ j,i + q ≤ j → o.getD j 0 = 0:=hz
   replace hA:=Lib.hid hA
   replace hpa:=Lib.hid hpa
   replace hvA:=Lib.hid hvA
   replace hx:=Lib.hid hx
   replace hv:=Lib.hid hv
   replace hz:=Lib.hid hz
   replace hlo:=Lib.hid hlo
   replace hO:=Lib.hid hO
   replace hol:=Lib.hid hol
   replace hz0:=Lib.hid hz0
   go_wp2_with fail
   go_loopw [8,27] (fun cv jv wr => ∃ (j c : Nat) (p : List Nat),j ≤ q ∧ jv = .int .i64 j ∧ cv = .int .u64 (c : Int) ∧ c < 4294967296 ∧ p.length = n + q ∧ Limbs p ∧ ZeroFrom (i + q) p ∧ OwnN w.heap.size wr ov p ∧ Below w.heap.size w wr ∧ natV p + 4294967296 ^ (i + j) * c = natV o + 4294967296 ^ i * x * natV (m.take j)) (fun _ jv _ => q - (intOf jv).toNat)
   case atStart => exact ⟨0,0,o,Nat.zero_le _,rfl,rfl,by decide,hol.out,hlo.out,hz.out,hO.out,hB,by simp [natV]⟩
   case round =>
    obtain ⟨j,c,p,hj,rfl,rfl,hc,hpl,hlp,hzp,hP,hBp,hvp⟩:=hrel
    obtain ⟨wi,rfl⟩ : ∃ wo : World,wo = wr:=⟨_,rfl⟩
    by_cases hjq : j < q
    ·have dj : decide ((j : Int) < (q : Int)) = true:=decide_eq_true (by omega)
     have hM:=k.out.below hBp
     have iM:=fun w' => hM.idx j (by rw [hq.out]; exact hjq) w'
     have cM:=hM.cell j (by rw [hq.out]; exact hjq)
     have yl:=limb_getD hm.out j
     have hvB:=natV_take_succ m j
     have iO : ∀ w',(Instr.indexAt 96 ov (.int .i64 ((i : Int) + (j : Int)))).run Tryz.prog w' = .ok (.pointer (some (valAt ov (i + j)))) w':=fun w' => hP.at.idx (i + j) (by rw [hpl]; omega) w'
     have cO:=hP.at.cell (i + j) (by rw [hpl]; omega)
     have fO:=hP.frz (i + j) (by rw [hpl]; omega)
     have zl:=limb_getD hlp (i + j)
     have hpz : p[i + j]'(by rw [hpl]; omega) = p.getD (i + j) 0:=by simp [List.getD,show i + j < p.length by rw [hpl]; omega]
     obtain ⟨y,hy⟩ : ∃ y,m.getD j 0 = y:=⟨_,rfl⟩
     rw [hy] at cM yl hvB
     have hrd:=mul_round (x:=x) (y:=y) (show i + j < p.length by rw [hpl]; omega) hvp
     rw [hpz] at hrd
     obtain ⟨z,hz1⟩ : ∃ z,p.getD (i + j) 0 = z:=⟨_,rfl⟩
     rw [hz1] at cO zl hrd
     have htl:=add_mul_lt xl yl zl hc
     have ht1 : ((x : Int) * (y : Int) + (z : Int)) + (c : Int) = ((x * y + z + c : Nat) : Int):=by simp
     have ht2 : (x : Int) * (y : Int) = ((x * y : Nat) : Int):=by simp
     have ht3 : ((x * y : Nat) : Int) + (z : Int) = ((x * y + z : Nat) : Int):=by simp
     have ht4 : ((x * y + z : Nat) : Int) + (c : Int) = ((x * y + z + c : Nat) : Int):=by simp
     obtain ⟨xy,hxy⟩ : ∃ t,x * y = t:=⟨_,rfl⟩
     rw [hxy] at htl ht2 ht3 ht4 hrd
     obtain ⟨xyz,hxyz⟩ : ∃ t,xy + z = t:=⟨_,rfl⟩
     rw [hxyz] at htl ht3 ht4 hrd
     obtain ⟨t,ht⟩ : ∃ t,xyz + c = t:=⟨_,rfl⟩
     rw [ht] at htl ht4 hrd
     have hset:=hP.set (i + j) (by rw [hpl]; omega) (t % 4294967296)
     have hsb:=hP.setBelow hBp (i + j) (by rw [hpl]; omega) (.int .u32 ((t % 4294967296 : Nat) : Int))
     have hlp2:=limbs_setM (i:=i + j) hlp (Nat.mod_lt t (show 0 < 4294967296 by decide))
     have hzp2 : ZeroFrom (i + q) (p.set (i + j) (t % 4294967296)):=fun s hs => by
      have:=hzp s hs
      simp only [List.getD,List.getElem?_set] at this ⊢
      rw [if_neg (by omega)]; exact this
     have hpl2 : (p.set (i + j) (t % 4294967296)).length = n + q:=by rw [List.length_set,hpl]
     have hc2 : t / 4294967296 < 4294967296:=by omega
     have ec : (t : Int) / 4294967296 = ((t / 4294967296 : Nat) : Int):=by omega
     have em : (t : Int) % 4294967296 = ((t % 4294967296 : Nat) : Int):=by omega
     have hfin : natV (p.set (i + j) (t % 4294967296)) + 4294967296 ^ (i + (j + 1)) * (t / 4294967296) = natV o + 4294967296 ^ i * x * natV (m.take (j + 1)):=by
      rw [hvB,Nat.mul_add,← Nat.add_assoc,← Nat.add_assoc]; exact hrd
     obtain ⟨tl,htl2⟩ : ∃ a,t % 4294967296 = a:=⟨_,rfl⟩
     obtain ⟨th,hth⟩ : ∃ a,t / 4294967296 = a:=⟨_,rfl⟩
     rw [htl2] at hset hsb hlp2 hzp2 hpl2 em hfin
     rw [hth] at hc2 ec hfin
     obtain ⟨pm,hpm⟩ : ∃ p,valAt u j = p:=⟨_,rfl⟩
     obtain ⟨po,hpo⟩ : ∃ p,valAt ov (i + j) = p:=⟨_,rfl⟩
     rw [hpm] at iM cM
     rw [hpo] at iO cO fO hset hsb
     have hxyl : xy < 18446744073709551616:=by omega
     have hxyzl : xyz < 18446744073709551616:=by omega
     replace hset:=Lib.hid hset
     replace hsb:=Lib.hid hsb
     replace hlp2:=Lib.hid hlp2
     replace hzp2:=Lib.hid hzp2
     replace hpl2:=Lib.hid hpl2
     replace hfin:=Lib.hid hfin
     replace hrd:=Lib.hid hrd
     replace hvp:=Lib.hid hvp
     replace hvB:=Lib.hid hvB
     replace hP:=Lib.hid hP
     replace hlp:=Lib.hid hlp
     replace hzp:=Lib.hid hzp
     replace hpl:=Lib.hid hpl
     replace hpz:=Lib.hid hpz
     replace hM:=Lib.hid hM
     replace hx2:=Lib.hid hxy
     replace hy:=Lib.hid hy
     replace hz1:=Lib.hid hz1
     replace hxyz:=Lib.hid hxyz
     replace ht:=Lib.hid ht
     replace htl2:=Lib.hid htl2
     replace hth:=Lib.hid hth
     replace hpm:=Lib.hid hpm
     replace hpo:=Lib.hid hpo
     clear ht1 hxy
     go_wp2
     go_roundw
     case measure => simp [intOf]; omega
     case rel => exact ⟨j + 1,th,_,by omega,by go_num,rfl,hc2,hpl2.out,hlp2.out,hzp2.out,hset.out,hsb.out,hfin.out⟩
    ·obtain rfl : j = q:=by omega
     have dj : decide ((j : Int) < (j : Int)) = false:=decide_eq_false (by omega)
     have hil : i + j < p.length:=by rw [hpl]; omega
     have iO : ∀ w',(Instr.indexAt 96 ov (.int .i64 ((i : Int) + (j : Int)))).run Tryz.prog w' = .ok (.pointer (some (valAt ov (i + j)))) w':=fun w' => hP.at.idx (i + j) hil w'
     have cO:=hP.at.cell (i + j) hil
     have fO:=hP.frz (i + j) hil
     have hset:=hP.set (i + j) hil c
     have hsb:=hP.setBelow hBp (i + j) hil (.int .u32 (c : Int))
     have hlp2:=limbs_setM (i:=i + j) hlp hc
     have hpl2 : (p.set (i + j) c).length = n + j:=by rw [List.length_set,hpl]
     have hzp2 : ZeroFrom (i + 1 + j) (p.set (i + j) c):=fun s hs => by
      have:=hzp s (by omega)
      simp only [List.getD,List.getElem?_set] at this ⊢
      rw [if_neg (by omega)]; exact this
     have h0 : p[i + j]'hil = 0:=by
      have:=hzp (i + j) (Nat.le_refl _)
      simpa [List.getD,hil] using this
     have hns:=natV_set hil c
     rw [h0,Nat.mul_zero,Nat.add_zero,hvp,natV_take_all (by rw [hq.out]; exact Nat.le_refl _),hv.out] at hns
     have hfin : natV (p.set (i + j) c) = natV (l.take (i + 1)) * natV m:=by rw [hns,hvA.out,Nat.add_mul]
     obtain ⟨po,hpo⟩ : ∃ p,valAt ov (i + j) = p:=⟨_,rfl⟩
     rw [hpo] at iO cO fO hset hsb
     obtain ⟨z,hz1⟩ : ∃ z,p.getD (i + j) 0 = z:=⟨_,rfl⟩
     rw [hz1] at cO
     replace hset:=Lib.hid hset
     replace hsb:=Lib.hid hsb
     replace hlp2:=Lib.hid hlp2
     replace hzp2:=Lib.hid hzp2
     replace hpl2:=Lib.hid hpl2
     replace hfin:=Lib.hid hfin
     replace hvp:=Lib.hid hvp
     replace hns:=Lib.hid hns
     replace hP:=Lib.hid hP
     replace hlp:=Lib.hid hlp
     replace hzp:=Lib.hid hzp
     replace hpl:=Lib.hid hpl
     replace hpo:=Lib.hid hpo
     replace hz1:=Lib.hid hz1
     replace h0:=Lib.hid h0
     go_wp2
     go_roundw
     case measure => simp [intOf]; omega
     case rel => exact ⟨i + 1,_,by omega,by go_num,hpl2.out,hlp2.out,hzp2.out,hset.out,hsb.out,hfin.out⟩
  ·obtain rfl : i = n:=by omega
   have di : decide ((i : Int) < (i : Int)) = false:=decide_eq_false (by omega)
   rw [natV_take_all (by rw [hn.out]; exact Nat.le_refl _)] at hv
   replace hO:=Lib.hid hO
   replace hlo:=Lib.hid hlo
   replace hv:=Lib.hid hv
   replace hz:=Lib.hid hz
   replace hol:=Lib.hid hol
   go_wp2_with fail
   refine (norm_own w.heap.size _ _ _ _ hO.out hlo.out hv.out).mono ?_
   rintro e w' ⟨⟨x,rfl,hx⟩,rfl⟩
   replace hx:=Lib.hid hx
   go_wp2
   go_ret
   exact ⟨_,rfl,hB,hx.out⟩
end Go.Proofs.YtjiadfblphdchaaGreatDoor
namespace Go.Proofs.YtjiadfblphdchaaGreatDoor
/-- The limbs of a number, none zero on top. -/
def natL : Nat → List Nat
 | 0 => []
 | n + 1 => (n + 1) % 4294967296 :: natL ((n + 1) / 4294967296)
termination_by n => n
decreasing_by exact Nat.div_lt_self (by omega) (by decide)
theorem natL_zero : natL 0 = []:=by rw [natL]
theorem natL_pos {n : Nat} (h : n ≠ 0) : natL n = n % 4294967296 :: natL (n / 4294967296):=by
 cases n with
 | zero => exact absurd rfl h
 | succ n => rw [natL]
theorem natL_spec (n : Nat) : Limbs (natL n) ∧ Norm (natL n) ∧ natV (natL n) = n:=by
 induction n using Nat.strongRecOn with
 | _ n ih =>
  by_cases h : n = 0
  ·subst h; rw [natL_zero]; exact ⟨fun x hx => (by cases hx),fun h => absurd rfl h,rfl⟩
  ·rw [natL_pos h]
   obtain ⟨h1,h2,h3⟩:=ih (n / 4294967296) (Nat.div_lt_self (by omega) (by decide))
   refine ⟨fun x hx => ?_,fun hne => ?_,?_⟩
   ·rcases List.mem_cons.1 hx with rfl | hx
    ·exact Nat.mod_lt _ (by decide)
    ·exact h1 x hx
   ·by_cases hz : natL (n / 4294967296) = []
    ·have hq : n / 4294967296 = 0:=by
      rw [← h3,hz]; rfl
     simp only [hz,List.getLast_singleton]
     omega
    ·rw [List.getLast_cons hz]; exact h2 hz
   ·rw [natV,h3]; omega
theorem natL_of {l : List Nat} (h1 : Limbs l) (h2 : Norm l) : l = natL (natV l):=by
 obtain ⟨a,b,c⟩:=natL_spec (natV l)
 exact norm_unique h1 a h2 b c.symm
/-- The number of a table: the last symbol first. -/
def codeN (K : Nat) (T : List Int) : Nat:=(List.range T.length).reverse.foldl (fun n i => n * K + (T.getD i 0).toNat) 0
theorem codeN_shift : codeN 2 [0,0,0,0,1,1,1,1] = 240:=by decide
end Go.Proofs.YtjiadfblphdchaaGreatDoor
namespace Go.Proofs.YtjiadfblphdchaaGreatDoor
open Go.RowKit Go.Shelf
attribute [local go_sem] Oper.semAt_some
set_option maxRecDepth 100000
/-- A symbol: the body of a loop knows of what it is handed only its type. -/
abbrev Sym4:={ x : Int // 0 ≤ x ∧ x < 4 }
def sym0 : Sym4:=⟨0,by decide⟩
def valsS (zs : List Sym4) : List Int:=zs.map (·.1)
/-- From the end down to place k. -/
def bwP (zs : List Sym4) (k : Nat) : List (Int × Sym4):=((List.range zs.length).drop k).reverse.map fun (i : Nat) => ((i : Int),zs.getD i sym0)
theorem bwP_len (zs : List Sym4) (k : Nat) : (bwP zs k).length = zs.length - k:=by simp [bwP]
theorem bwP_end (zs : List Sym4) : bwP zs zs.length = []:=by simp [bwP]
theorem bwP_step (zs : List Sym4) (k : Nat) (hk : k < zs.length) : bwP zs k = bwP zs (k + 1) ++ [((k : Int),zs.getD k sym0)]:=by
 unfold bwP
 rw [List.drop_eq_getElem_cons (by simpa using hk)]
 simp
theorem bwP_pre (zs : List Sym4) (k : Nat) : bwP zs k <+: bwP zs 0:=by
 unfold bwP
 rw [List.drop_zero]
 refine List.IsPrefix.map _ ?_
 exact List.reverse_prefix.2 (List.drop_suffix _ _)
theorem valsS_get (zs : List Sym4) (k : Nat) (hk : k < zs.length) : (valsS zs)[k]'(by simpa [valsS] using hk) = (zs.getD k sym0).1:=by simp [valsS,List.getD,hk]
/-- What a round keeps: what lay below n0, and the box of the slice. -/
def KeepB (n0 Bs : Nat) (W W' : World) : Prop:=Below n0 W W' ∧ W'.heap[Bs]? = W.heap[Bs]?
theorem KeepB.refl (n0 Bs : Nat) (W : World) : KeepB n0 Bs W W:=⟨Below.refl _ _,rfl⟩
theorem KeepB.trans {n0 Bs : Nat} {A B C : World} (h : KeepB n0 Bs A B) (k : KeepB n0 Bs B C) : KeepB n0 Bs A C:=⟨h.1.trans k.1,k.2.trans h.2⟩
def encB (x : Int × Sym4) : Array Value:=#[.int .i64 x.1,.int .i64 x.2.1]
set_option maxHeartbeats 2000000 in
/-- The iterator of slices.Backward. -/
theorem backward1_in (F : Fence) (n : Nat) (hF : F.fn 127) (hro : F.round = none) (hn : 1 ≤ n) (l Bs n0 : Nat) (v : Value) (zs : List Sym4) (J Jx : List (Int × Sym4) → World → Prop)
 (hY : ∀ pre x W,J pre W → pre.length < zs.length → YieldAt F (n - 1) Tryz.prog l (encB x) W fun e W' =>
   (e = .returned (.bool true) ∧ J (pre ++ [x]) W' ∧ KeepB n0 Bs W W') ∨ (e = .returned (.bool false) ∧ Jx (pre ++ [x]) W'))
 (W : World) (hBs : W.cell? ⟨Bs,0,none⟩ = some v) (hv : IntsAt W v (valsS zs)) (hb : ∀ i,i < zs.length → (valAt v i).block < n0) (h0 : J [] W) :
 CallsIn F n Tryz.prog 127 #[.func (.yield l) #[] #[],.pointer (some ⟨Bs,0,none⟩)] W fun e W' => (∃ u,e = .returned u) ∧
  ((∃ ys,ys = bwP zs 0 ∧ J ys W') ∨ (∃ pre,pre <+: bwP zs 0 ∧ Jx pre W')):=by
 have hlen:=hv.len
 have hmax:=hv.len_le
 have hzl : (valsS zs).length = zs.length:=by simp [valsS]
 rw [hzl] at hlen hmax
 obtain ⟨q,hq⟩ : ∃ q,zs.length = q:=⟨_,rfl⟩
 rw [hq] at hlen hmax
 obtain ⟨a1,a2,a3,rfl⟩:=hv.shape
 replace hv:=Lib.hid hv
 replace hzl:=Lib.hid hzl
 replace hq:=Lib.hid hq
 refine callsIn_of_wp Tryz.func127 rfl hF ?_ hro
 simp only [Tryz.ntmps127,List.size_toArray,List.length_cons,List.length_nil,Nat.reduceAdd,Nat.reduceSub,Array.replicate_succ,Array.replicate_zero,List.push_toArray,List.append_toArray,List.nil_append,List.cons_append]
 gi_wp2
 gi_loopw [3] (fun i wr => ∃ k : Nat,k ≤ q ∧ i = .int .i64 ((k : Int) - 1) ∧ J (bwP zs k) wr ∧ KeepB n0 Bs W wr)
  (fun i _ => (intOf i + 1).toNat)
 case atStart => exact ⟨q,Nat.le_refl _,rfl,by rw [← hq.out,bwP_end]; exact h0,KeepB.refl _ _ _⟩
 case round =>
  obtain ⟨k,hk,rfl,hJs,hnx⟩:=hrel
  by_cases hk0 : k = 0
  ·subst hk0
   have di : decide ((0 : Int) ≤ ((0 : Nat) : Int) - 1) = false:=by decide
   replace hJs:=Lib.hid hJs
   gi_wp2
   go_end0
   exact ⟨⟨_,rfl⟩,.inl ⟨_,rfl,hJs.out⟩⟩
  ·obtain ⟨j,rfl⟩ : ∃ j,k = j + 1:=⟨k - 1,by omega⟩
   have e1 : ((j + 1 : Nat) : Int) - 1 = (j : Int):=by omega
   rw [e1]
   clear e1
   have di : decide ((0 : Int) ≤ (j : Int)) = true:=decide_eq_true (by omega)
   have cB:=(World.cell?_of_block (a:=⟨Bs,0,none⟩) hnx.2).trans hBs
   have hjl : j < (valsS zs).length:=by rw [hzl.out,hq.out]; omega
   have hjz : j < zs.length:=by rw [hq.out]; omega
   have i1:=fun w' => hv.out.idx j hjl w'
   have c1:=(hnx.1.cell (hb j hjz)).trans (hv.out.cell j hjl)
   rw [valsS_get zs j hjz] at c1
   have ht:=Lib.hid (bwP_step zs j hjz)
   obtain ⟨x,hx⟩ : ∃ x,zs.getD j sym0 = x:=⟨_,rfl⟩
   rw [hx] at c1 ht
   obtain ⟨p,hp⟩ : ∃ p,valAt (.slice a1 a2 a3) j = p:=⟨_,rfl⟩
   rw [hp] at i1 c1
   replace hx:=Lib.hid hx
   replace hp:=Lib.hid hp
   obtain ⟨fn,tmps,assign,body,hy,hR⟩:=hY _ ((j : Int),x) wr hJs (by rw [bwP_len,hq.out]; omega)
   unfold encB at hy
   dsimp only at hy
   replace hJs:=Lib.hid hJs
   clear hjl hjz
   gi_wp2
   refine hR.mono ?_
   rintro e W3 (⟨rfl,hJ3,hk3⟩ | ⟨rfl,hJx3⟩)
   ·replace hJ3:=Lib.hid hJ3
    gi_wp2
    go_roundw
    case rel => exact ⟨j,by omega,by go_num,by rw [ht.out]; exact hJ3.out,hnx.trans hk3⟩
    case measure => simp [intOf]
   ·replace hJx3:=Lib.hid hJx3
    gi_wp2
    refine bodyPost_ret (results_none rfl _ _ _) rfl ?_
    exact ⟨⟨_,rfl⟩,.inr ⟨_,by rw [← ht.out]; exact bwP_pre _ _,hJx3.out⟩⟩
theorem backward_any (a : Option Addr) (n c : Nat) (w : World) :
 Calls Tryz.prog 99 #[.slice a n c] w fun e w' => e = .returned (.func (.func 127) #[] #[.pointer (some ⟨w.heap.size,0,none⟩)]) ∧ w.alloc (.cells #[.slice a n c] 22) = w':=by
 go_enter Tryz.func99,Tryz.ntmps99
 go_wp2
 go_ret
 exact ⟨rfl,rfl⟩
theorem backward_stops (F : Fence) (n : Nat) (hF : F.fn 127) (hro : F.round = none) (hn : 1 ≤ n) (Bs n0 : Nat) (v : Value) (zs : List Sym4) (w : World) (hBs : Bs < w.heap.size)
 (hc : w.cell? ⟨Bs,0,none⟩ = some v) (hv : IntsAt w v (valsS zs)) (hb : ∀ i,i < zs.length → (valAt v i).block < n0) :
 SeqStopsK F n Tryz.prog 127 #[.pointer (some ⟨Bs,0,none⟩)] encB (KeepB n0 Bs) (fun ys => ys = bwP zs 0) (fun pre => pre <+: bwP zs 0) zs.length w:=fun l J Jx W hW _ _ hY h0 =>
 backward1_in F n hF hro hn l Bs n0 v zs J Jx hY W ((hW.cell (p:=⟨Bs,0,none⟩) hBs).trans hc) (hv.below hW) hb h0
end Go.Proofs.YtjiadfblphdchaaGreatDoor
namespace Go.Proofs.YtjiadfblphdchaaGreatDoor
section
variable {P : Program} {ops : Array Oper} {Q : Exit → Act → World → Prop} {md : Region.Mode} {S : World → Prop}
/-- It goes on, and leaves by no other way. -/
def OnlyN (Q : Exit → Act → World → Prop) : Exit → Act → World → Prop
 | .normal,a,w => Q .normal a w
 | _,_,_ => False
theorem OnlyN.normal {Q : Exit → Act → World → Prop} {a : Act} {w : World} (h : Q .normal a w) : OnlyN Q .normal a w:=h
theorem OnlyN.imp {Q : Exit → Act → World → Prop} : ∀ (e : Exit) (a : Act) (w : World),OnlyN Q e a w → Q e a w:=fun e a w h => by
 cases e <;> first | exact h | exact h.elim
theorem noPanic_out (Q : Exit → Act → World → Prop) : ¬ LetsOut (OnlyN Q):=fun ⟨_,_,h⟩ => h
theorem oper_round {l n : Nat} {o : Oper} {a : Act} {w : World} {K : Act → World → Prop} (hnd : ∀ c,o.op ≠ .defer c) (h : o.wp P a w K Q) : o.wpIn (Fence.wide.inRound l) n P a w K Q:=by
 refine ⟨fun _ _ => trivial,?_⟩
 rw [Fence.inRound_round,Oper.semAt_some l a.eval o hnd]
 unfold Oper.wp at h
 generalize (execOp a.eval o).run P w = r at *
 have hd : ∀ n : Nat,(Fence.wide.inRound l).depth.isSome = true → 1 ≤ n:=fun _ h => by cases h
 cases r with
 | ok x w' =>
  cases x
  case enter f args => exact ⟨hd n,CallsIn.inRound l (callsIn_wide.2 h)⟩
  case row r args => exact ⟨hd n,fun c cs _ => by
   obtain ⟨v,w',q,s⟩:=h c cs
   exact ⟨v,w',q,stepsIn_wide.2 s⟩⟩
  all_goals first | exact h | exact h.elim
 | halt x w' => cases x <;> exact h
theorem any_round {l n : Nat} (hnd : ∀ (i : Nat) (o : Oper),ops[i]? = some o → ∀ c,o.op ≠ .defer c) :
 ∀ (fuel : Nat) (listed : Array Bool) (a : Act) (w : World),wpAny P md ops (OnlyN Q) fuel listed a w → wpAnyIn (Fence.wide.inRound l) n P md ops (OnlyN Q) fuel listed a w
 | 0,_,_,_,h => h
 | fuel + 1,listed,a,w,h => ⟨h.1,fun i hi => by
  have h2:=h.2 i hi
  unfold wpOp at h2
  unfold wpOpIn
  cases ho : ops[i]? with
  | none => rw [ho] at h2; exact any_round hnd fuel _ _ _ h2
  | some o =>
   rw [ho] at h2
   simp only at h2 ⊢
   split
   ·rename_i hw
    rw [if_pos hw] at h2
    rcases h2 with h2 | ⟨_,h2⟩
    ·exact Oper.wpIn_mono (fun a' w' h' => any_round hnd fuel _ _ _ h') (oper_round (hnd i o ho) h2)
    ·exact absurd h2 (noPanic_out Q)
   ·rename_i hw
    rw [if_neg hw] at h2
    exact ⟨fun _ _ => trivial,any_round hnd fuel _ _ _ h2⟩⟩
def noDefer (l : List Oper) : Bool:=l.all fun o => match o.op with | .defer _ => false | _ => true
theorem noDefer_spec {l : List Oper} (h : noDefer l = true) (i : Nat) (o : Oper) (ho : l.toArray[i]? = some o) (c : Call) : o.op ≠ .defer c:=by
 intro e
 have hm : o ∈ l:=by
  rw [List.getElem?_toArray] at ho
  exact List.mem_of_getElem? ho
 have:=List.all_eq_true.1 h o hm
 rw [e] at this
 cases this
/-- **The law**, in a round. -/
theorem wpIn_region_plan {id lr m : Nat} {a : Act} {w : World} {l : List Oper} (S : World → Prop) (n : Nat) (plan : List (Nat × Bool)) (hm : P.follows .mixedOrders = true) (hB : tailB .any l.toArray n plan = true) (hD : noDefer l = true)
 (h : wpHead P l.toArray (OnlyN Q) S (fun a' w' => wpList P l.toArray (OnlyN Q) (l.drop n) a' w') plan a w.drew) : (Code.region id l.toArray true).wpIn (Fence.wide.inRound lr) m P Q a w:=by
 simp only [tailB,Bool.and_eq_true,decide_eq_true_eq] at hB
 obtain ⟨⟨⟨⟨⟨hsel,hn⟩,hs⟩,hc⟩,hlen⟩,hp⟩:=hB
 refine wpIn_mono (Q:=OnlyN Q) ?_ OnlyN.imp
 refine wpIn_region_any hm (any_round (noDefer_spec hD) _ _ _ _ ?_)
 have inv0 : HeadInv .any l.toArray n (Array.replicate l.toArray.size false) :=
  ⟨by simp,fun j oj _ hl => (by rw [getD_replicate_false] at hl; cases hl),fun t _ ht => getD_in (by simpa using ht) (getD_replicate_false _ _)⟩
 have:=wpAnyT_plan (md:=.any) (Q:=OnlyN Q) (S:=S) rfl hsel hs hc hn (fun _ _ _ h => h) plan _ a _ inv0 hp h
 rw [hlen,show n + (l.toArray.size - n) = l.toArray.size by omega] at this
 exact wpAny_of_T _ _ _ _ this
end
end Go.Proofs.YtjiadfblphdchaaGreatDoor
namespace Go.Proofs.YtjiadfblphdchaaGreatDoor
open Go.RowKit Go.Shelf
attribute [local go_sem] Oper.semAt_some
set_option maxRecDepth 100000
theorem NumIs.own {B : Nat} {w : World} {v : Value} {n : Nat} (h : NumIs B w v n) : OwnN B w v (natL n):=by
 obtain ⟨l,h1,h2,h3,h4⟩:=h
 rw [← h4,← natL_of h2 h3]; exact h1
theorem OwnN.num {B : Nat} {w : World} {v : Value} {n : Nat} (h : OwnN B w v (natL n)) : NumIs B w v n:=by
 obtain ⟨a,b,c⟩:=natL_spec n
 exact ⟨_,h,a,b,c⟩
theorem natL_len {n k : Nat} (h : n < 4294967296 ^ k) : (natL n).length ≤ k:=by
 obtain ⟨a,b,c⟩:=natL_spec n
 exact norm_len b (by rw [c]; exact h)
/-- The number so far. -/
def sofar (K : Nat) (pre : List (Int × Sym4)) : Nat:=pre.foldl (fun n x => n * K + x.2.1.toNat) 0
theorem sofar_snoc (K : Nat) (pre : List (Int × Sym4)) (x : Int × Sym4) : sofar K (pre ++ [x]) = sofar K pre * K + x.2.1.toNat:=by simp [sofar]
theorem sofar_lt {K : Nat} (hK : K ≤ 4) (pre : List (Int × Sym4)) : sofar K pre < 4294967296 ^ pre.length:=by
 have key : ∀ n (pre : List (Int × Sym4)),pre.length = n → sofar K pre < 4294967296 ^ n:=by
  intro n
  induction n with
  | zero => intro pre h; rw [List.eq_nil_of_length_eq_zero h]; simp [sofar]
  | succ n ih =>
   intro pre h
   have hne : pre ≠ []:=by intro e; subst e; simp at h
   obtain ⟨b,x,rfl⟩ : ∃ b x,pre = b ++ [x]:=⟨pre.dropLast,pre.getLast hne,(List.dropLast_concat_getLast hne).symm⟩
   have h1:=ih b (by simpa using h)
   rw [sofar_snoc,Nat.pow_succ]
   have h2:=x.2.2
   have h3 : sofar K b * K ≤ sofar K b * 4:=Nat.mul_le_mul_left _ hK
   omega
 exact key _ pre rfl
theorem sofar_code {K : Nat} {T : List Int} (zs : List Sym4) (h : valsS zs = T) : sofar K (bwP zs 0) = codeN K T:=by
 subst h
 unfold sofar codeN bwP
 rw [List.drop_zero,List.foldl_map]
 have hl : (valsS zs).length = zs.length:=by simp [valsS]
 rw [hl]
 have key : ∀ (l : List Nat) (n : Nat),(∀ i ∈ l,i < zs.length) → l.foldl (fun n i => n * K + (zs.getD i sym0).1.toNat) n = l.foldl (fun n i => n * K + ((valsS zs).getD i 0).toNat) n:=by
  intro l
  induction l with
  | nil => intro n _; rfl
  | cons i l ih =>
   intro n hl2
   have hi2:=hl2 i (by simp)
   have e : (valsS zs).getD i 0 = (zs.getD i sym0).1:=by rw [← valsS_get zs i hi2]; simp [List.getD,hl,hi2]
   rw [List.foldl_cons,List.foldl_cons,e]
   exact ih _ fun j hj => hl2 j (by simp [hj])
 exact key _ _ fun i hi => List.mem_range.1 (List.mem_reverse.1 hi)
theorem syms_sub {K : Nat} {T : List Int} (hK : K ≤ 4) (h : Syms K T) : ∃ zs : List Sym4,valsS zs = T:=by
 induction T with
 | nil => exact ⟨[],rfl⟩
 | cons x T ih =>
  obtain ⟨zs,hz⟩:=ih fun y hy => h y (by simp [hy])
  have hx:=h x (by simp)
  exact ⟨⟨x,by omega⟩ :: zs,by unfold valsS at *; rw [List.map_cons,hz]⟩
theorem wrapU {n : Nat} (h : n < 18446744073709551616) : IntKind.u64.wrap (n : Int) = (n : Int):=by rw [IntKind.wrap_u64]; omega
set_option maxHeartbeats 4000000 in
theorem rule_code (r : Nat → Addr) (K R : Nat) (va : Option Addr) (vn vc : Nat) (T : List Int) (w : World) (hg : Glob r w) (h : IntsAt w (.slice va vn vc) T) (hr : RuleOk K R T) (hl : T.length ≤ 256) :
 Calls Tryz.prog 64 #[.agg #[.int .i64 K,.int .i64 R,.slice va vn vc]] w (Ret2 (fun x y w' => y = .nilIface ∧ NumIs w.heap.size w' x (codeN K T)) w):=by
 have b0:=belowAlloc w (.cells #[.int .i64 K,.int .i64 R,.slice va vn vc] 24)
 have q : Box3 (w.alloc (.cells #[.int .i64 K,.int .i64 R,.slice va vn vc] 24)) w.heap.size (.int .i64 K) (.int .i64 R) (.slice va vn vc):=by simp [Box3,go_sem]
 have hsm : smallP K R T = none:=by rw [smallP_ok hr,if_neg (by omega)]
 have hk4:=hr.k4
 obtain ⟨zs,hzs⟩:=syms_sub hr.k4 hr.syms
 replace hg:=Lib.hid (hg.below b0)
 replace h:=Lib.hid (h.below b0)
 replace hr:=Lib.hid hr
 replace hsm:=Lib.hid hsm
 refine (callsIn_wide (n:=6)).1 ?_
 refine callsIn_of_wp_marks Tryz.func64 rfl trivial ?_ rfl
 simp only [Tryz.ntmps64,List.size_toArray,List.length_cons,List.length_nil,Nat.reduceAdd,Nat.reduceSub,Array.replicate_succ,Array.replicate_zero,List.push_toArray,List.append_toArray,List.nil_append,List.cons_append]
 refine wpIn_wide.2 ?_
 go_wp2_with fail
 refine (small_any r K R va vn vc T _ hg.out h.out).mono ?_
 rintro e w1 ⟨x,rfl,b1,hx⟩
 rw [hsm.out] at hx
 obtain rfl:=hx.none_eq
 clear hx
 have b01:=Below.step b0 b1
 have bx:=belowAlloc w1 (.cells #[.slice none 0 0] 96)
 have h1':=h.out.below b1
 replace h1':=Lib.hid h1'
 obtain ⟨⟨z0,z1,z2⟩,-,-,-⟩:=q.below (Below.step b1 bx)
 go_wp2_with fail
 refine (backward_any va vn vc _).mono ?_
 rintro e w2 ⟨rfl,rfl⟩
 clear z0 z1 z2
 go_wp2_with fail
 have by0:=belowAlloc (w1.alloc (.cells #[.slice none 0 0] 96)) (.cells #[.slice va vn vc] 22)
 have hbox : Boxed ((w1.alloc (.cells #[.slice none 0 0] 96)).alloc (.cells #[.slice va vn vc] 22)) w1.heap.size 96 (.slice none 0 0):=(Boxed.new w1 96 (.slice none 0 0)).alloc _
 have hsb : ((w1.alloc (.cells #[.slice none 0 0] 96)).alloc (.cells #[.slice va vn vc] 22)).cell? ⟨w1.heap.size + 1,0,none⟩ = some (.slice va vn vc):=by simp [go_sem]
 have hsz : ((w1.alloc (.cells #[.slice none 0 0] 96)).alloc (.cells #[.slice va vn vc] 22)).heap.size = w1.heap.size + 2:=by simp
 have hB0 : Below w1.heap.size w1 ((w1.alloc (.cells #[.slice none 0 0] 96)).alloc (.cells #[.slice va vn vc] 22)):=Below.step bx by0
 have hblk:=fun i hi => h1'.out.blk i hi
 obtain ⟨W0,hW0⟩ : ∃ W0 : World,(w1.alloc (.cells #[.slice none 0 0] 96)).alloc (.cells #[.slice va vn vc] 22) = W0:=⟨_,rfl⟩
 rw [hW0] at hbox hsb hsz hB0 ⊢
 have hT0:=h1'.out.below hB0
 rw [← hzs] at hT0
 have qr:=q.below (Below.step b1 hB0)
 have hr0 : w.heap.size < w1.heap.size:=by have:=b1.size; simp at this; omega
 have hlz : zs.length = T.length:=by rw [← hzs]; simp [valsS]
 have hsome : ∃ o,W0.heap[w1.heap.size + 1]? = some o:=⟨_,Array.getElem?_eq_getElem (show w1.heap.size + 1 < W0.heap.size by omega)⟩
 have q1:=q.below b1
 replace hW0:=Lib.hid hW0
 refine wpIn_wide.1 (wpIn_rangeFunc_ownG (F:=Fence.wide) (n:=6) rfl (by decide) (gf:=127) (lb:=#[.pointer (some ⟨w1.heap.size + 1,0,none⟩)]) rfl trivial (enters_of Tryz.func127 (by kernel_rfl) rfl)
  (backward_stops Fence.wide (6 - 1) trivial rfl (by decide) (w1.heap.size + 1) w1.heap.size (.slice va vn vc) zs W0 (by omega) hsb hT0 (fun i hi => hblk i (by rw [← hlz]; exact hi)))
  KeepB.trans (fun W l o o' hl hk ho hw => ⟨belowK_b (by omega) W l o o' hl hk ho hw,(grownBy_putObj' W l o').block (w1.heap.size + 1) (by have:=(Array.getElem?_eq_some_iff.1 hk).1; omega) (by intro e; injection e; omega)⟩) (Below.refl _ _) (fun _ => rfl)
  (fun pre W => ((∃ v,Boxed W w1.heap.size 96 v ∧ W.ownsRow w1.heap.size 153 1 v (natL (sofar K pre)).length (limbs (natL (sofar K pre))) ∧ True) ∧ Below w1.heap.size w1 W) ∧ W.heap[w1.heap.size + 1]? = W0.heap[w1.heap.size + 1]?)
  (fun _ _ _ => False)
  (OwnFrom.and (OwnFrom.and (Own.from (holdsRow_own w1.heap.size w1.heap.size 96 153 1 (fun pre => (natL (sofar K pre)).length) (fun pre => limbs (natL (sofar K pre))) (fun _ _ => True)) _) (ownFrom_below (Nat.le_refl _) (by omega))) (fun s X Y row hs hg hr => by
    obtain ⟨o,ho⟩:=hsome
    exact (hg.block (w1.heap.size + 1) (by rw [ho] at hs; exact (Array.getElem?_eq_some_iff.1 hs).1) (fun e => by have:=(hr _ e.symm).1; omega)).trans hs))
  (fun _ _ _ _ _ hs _ _ => hs)
  ⟨⟨⟨_,hbox,by rw [show sofar K [] = 0 from rfl,natL_zero]; exact World.ownsRow_nil _ _ _ _,trivial⟩,hB0⟩,rfl⟩
  (fun x => { tmps:=#[.agg #[.int .i64 K,.int .i64 R,.slice va vn vc],.pointer (some ⟨w.heap.size,0,none⟩),.slice none 0 0,.nilIface,.nilIface,.pointer (some ⟨w1.heap.size,0,none⟩),undef,.int .i64 x.2.1,.agg #[.int .i64 K,.int .i64 R,.slice va vn vc],.nilIface,.nilIface,.bool false,undef,.pointer (some ⟨w.heap.size,2,none⟩),.slice va vn vc,.func (.func 127) #[] #[.pointer (some ⟨w1.heap.size + 1,0,none⟩)],.int .i64 x.1,.int .i64 x.2.1,undef,undef,undef,undef,undef,undef,undef,undef,undef,undef,undef],defers:=[] }) ?assign ?body ?done ?stop)
 case assign =>
  intro l x W KK hK
  unfold encB
  gi_wp2
  exact hK
 case body =>
  rintro l pre x W ⟨⟨⟨v,hv,hrow,-⟩,hB⟩,hsame⟩ hlt
  have hcv:=hv.cell
  have hfv:=hv.frozen
  have hcK : W.cell? ⟨w.heap.size,0,none⟩ = some (.int .i64 K):=(hB.cell (p:=⟨w.heap.size,0,none⟩) hr0).trans q1.1.1
  have hx2:=x.2.2
  have hsl:=sofar_lt hk4 pre
  have hsn:=sofar_snoc K pre x
  obtain ⟨xn,hxn⟩ : ∃ n : Nat,x.2.1 = (n : Int):=⟨x.2.1.toNat,by omega⟩
  rw [hxn] at hx2 hsn ⊢
  rw [Int.toNat_natCast] at hsn
  have hln:=natL_len hsl
  obtain ⟨S,hS⟩ : ∃ S,sofar K pre = S:=⟨_,rfl⟩
  rw [hS] at hrow hsl hsn hln
  obtain ⟨p,hp⟩ : ∃ p,pre.length = p:=⟨_,rfl⟩
  rw [hp] at hsl hln hlt
  have hpb : p < 256:=by omega
  have hOW : OwnN w1.heap.size W v (natL S):=by
   unfold OwnN OwnV
   rw [limbs_len]; exact hrow
  have hWs:=hB.size
  have hlS:=(natL_spec S).1
  have hvS:=(natL_spec S).2.2
  replace hxn:=Lib.hid hxn
  replace hS:=Lib.hid hS
  replace hp:=Lib.hid hp
  replace hsl:=Lib.hid hsl
  replace hsn:=Lib.hid hsn
  replace hrow:=Lib.hid hrow
  replace hOW:=Lib.hid hOW
  replace hlS:=Lib.hid hlS
  replace hvS:=Lib.hid hvS
  refine wpIn_block ?_
  refine wpIn_region_plan (fun w' => w'.cell? ⟨w1.heap.size,0,none⟩ = some v ∧ w'.cell? ⟨w.heap.size,0,none⟩ = some (.int .i64 K)) 10 [(0,true),(1,true),(2,true),(3,true),(6,true),(7,true),(4,false),(5,false),(8,false),(9,false)] (by kernel_rfl) (by kernel_rfl) (by kernel_rfl) ?_
  obtain ⟨W1,hW1⟩ : ∃ W' : World,W.drew = W':=⟨_,rfl⟩
  have bd : Below W.heap.size W W1:=by rw [← hW1]; exact (Below.refl _ _).drew
  rw [hW1]
  replace hW1:=Lib.hid hW1
  have hS1 : W1.cell? ⟨w1.heap.size,0,none⟩ = some v ∧ W1.cell? ⟨w.heap.size,0,none⟩ = some (.int .i64 K):=⟨(bd.cell (World.block_lt_of_cell? _ _ hcv)).trans hcv,(bd.cell (World.block_lt_of_cell? _ _ hcK)).trans hcK⟩
  refine pqY 18 hS1 ?_
  refine pqY 19 hS1 ?_
  refine pqY 20 hS1 ?_
  refine pqY 21 hS1 ?_
  refine pqY 24 hS1 ?_
  refine pqY 25 hS1 ?_
  refine headC rfl (fun KK hK => ?_)
  go_simp
  rw [wrapU (n:=K) (by omega)]
  refine (nat_from K W1 (by omega)).mono ?_
  rintro e W2 ⟨kv,rfl,b2,hkv⟩
  have b02:=Below.step bd b2
  have hS2 : W2.cell? ⟨w1.heap.size,0,none⟩ = some v ∧ W2.cell? ⟨w.heap.size,0,none⟩ = some (.int .i64 K):=⟨(b02.cell (World.block_lt_of_cell? _ _ hcv)).trans hcv,(b02.cell (World.block_lt_of_cell? _ _ hcK)).trans hcK⟩
  refine hK _ _ hS2 ?_
  clear hK KK
  have hkl:=hkv.own
  have hkL:=natL_len (n:=K) (k:=1) (by omega)
  refine headC rfl (fun KK hK => ?_)
  go_simp
  refine (nat_mul v kv (natL S) (natL K) W2 (hOW.out.at.below b02) hkl.at hlS.out (natL_spec K).1 (by omega) (by omega)).mono ?_
  rintro e W3 ⟨mv,rfl,b3,hmv⟩
  rw [hvS.out,(natL_spec K).2.2] at hmv
  have b03:=Below.step b02 b3
  have hS3 : W3.cell? ⟨w1.heap.size,0,none⟩ = some v ∧ W3.cell? ⟨w.heap.size,0,none⟩ = some (.int .i64 K):=⟨(b03.cell (World.block_lt_of_cell? _ _ hcv)).trans hcv,(b03.cell (World.block_lt_of_cell? _ _ hcK)).trans hcK⟩
  refine hK _ _ hS3 ?_
  clear hK KK
  refine headC rfl (fun KK hK => ?_)
  go_simp
  rw [wrapU (n:=xn) (by omega)]
  refine (nat_from xn W3 (by omega)).mono ?_
  rintro e W4 ⟨xv,rfl,b4,hxv⟩
  have b04:=Below.step b03 b4
  have hS4 : W4.cell? ⟨w1.heap.size,0,none⟩ = some v ∧ W4.cell? ⟨w.heap.size,0,none⟩ = some (.int .i64 K):=⟨(b04.cell (World.block_lt_of_cell? _ _ hcv)).trans hcv,(b04.cell (World.block_lt_of_cell? _ _ hcK)).trans hcK⟩
  refine hK _ _ hS4 ?_
  clear hK KK
  have hml : S * K < 4294967296 ^ (p + 1):=by
   have h1:=hsl.out
   rw [Nat.pow_succ]
   have h2 : S * K ≤ S * 4:=Nat.mul_le_mul_left _ hk4
   omega
  have hmL:=natL_len hml
  have hxL:=natL_len (n:=xn) (k:=1) (by omega)
  refine headC rfl (fun KK hK => ?_)
  go_simp
  refine (nat_add mv xv (natL (S * K)) (natL xn) W4 (hmv.own.at.below b4) hxv.own.at (natL_spec _).1 (natL_spec _).1 (by omega) (by omega)).mono ?_
  rintro e W5 ⟨av,rfl,b5,hav⟩
  rw [(natL_spec _).2.2,(natL_spec _).2.2,← hsn.out] at hav
  have b05:=Below.step b04 b5
  have hS5 : W5.cell? ⟨w1.heap.size,0,none⟩ = some v ∧ W5.cell? ⟨w.heap.size,0,none⟩ = some (.int .i64 K):=⟨(b05.cell (World.block_lt_of_cell? _ _ hcv)).trans hcv,(b05.cell (World.block_lt_of_cell? _ _ hcK)).trans hcK⟩
  refine hK _ _ hS5 ?_
  clear hK KK
  refine head0 ?_
  simp only [List.drop_succ_cons,List.drop_zero]
  have hf5:=(b05.frozen (p:=⟨w1.heap.size,0,none⟩) (World.block_lt_of_cell? _ _ hcv)).trans hfv
  have hv5 : Boxed W5 w1.heap.size 96 v:=(b05.block w1.heap.size hv.lt).trans hv
  have hlt1:=hv.lt
  have s5:=b05.size
  have hat : OwnN w1.heap.size (W5.setCell ⟨w1.heap.size,0,none⟩ av) av (natL (sofar K (pre ++ [x]))):=by
   have h6:=hav.own
   have hge:=b04.size
   exact (OwnV.setBelowBase h6 (a:=⟨w1.heap.size,0,none⟩) (by show w1.heap.size < _; omega) av).mono (by omega)
  have hbx:=hv5.set av
  have hB5 : Below w1.heap.size w1 (W5.setCell ⟨w1.heap.size,0,none⟩ av):=(hB.trans (b05.mono hB.size)).setCell (Nat.le_refl _) av
  have hk5 : KeepB w1.heap.size (w1.heap.size + 1) W (W5.setCell ⟨w1.heap.size,0,none⟩ av):=by
   obtain ⟨o,ho⟩:=hsome
   have hlt2 : w1.heap.size + 1 < W.heap.size:=by rw [ho] at hsame; exact (Array.getElem?_eq_some_iff.1 hsame).1
   exact ⟨((Below.refl _ W).trans (b05.mono hB.size)).setCell (Nat.le_refl _) av,(Below.heap_setCell _ _ _ _ (by show w1.heap.size + 1 ≠ w1.heap.size; omega)).trans (b05.block (w1.heap.size + 1) hlt2)⟩
  have hkf : KeepsFrom W0.heap.size W (W5.setCell ⟨w1.heap.size,0,none⟩ av):=by
   refine KeepsFrom.trans (Y:=W5) ⟨b05.size,fun k o _ hk _ => (b05.block k (Array.getElem?_eq_some_iff.1 hk).1).trans hk⟩ ((KeepsOthers.setCell _ _ _).from _)
  have hsm2:=hk5.2.trans hsame
  obtain ⟨ga,gn,gc,rfl⟩:=hav.own.at.shape
  have hs51:=hS5.1
  clear hS1 hS2 hS3 hS4 hS5 hcv hcK
  replace hat:=Lib.hid hat
  replace hbx:=Lib.hid hbx
  replace hk5:=Lib.hid hk5
  replace hkf:=Lib.hid hkf
  replace hav:=Lib.hid hav
  replace hmv:=Lib.hid hmv
  replace hxv:=Lib.hid hxv
  replace hkv:=Lib.hid hkv
  replace hkl:=Lib.hid hkl
  replace hv5:=Lib.hid hv5
  replace hv:=Lib.hid hv
  replace hsm2:=Lib.hid hsm2
  replace hsame:=Lib.hid hsame
  clear hsome
  go_wp2
  refine OnlyN.normal ?_
  go_wp2
  exact ⟨hkf.out,hk5.out,⟨⟨_,hbx.out,(by have:=hat.out; unfold OwnN OwnV at this; rwa [limbs_len] at this),trivial⟩,hB5⟩,hsm2.out⟩
 case done =>
  rintro D ys W hD rfl ⟨⟨⟨v,hv,hrow,-⟩,hB⟩,hsame⟩ hK
  have hc:=hv.cell
  have hOW : OwnN w1.heap.size W v (natL (codeN K T)):=by
   unfold OwnN OwnV
   rw [limbs_len,← sofar_code zs hzs]; exact hrow
  have hB1:=Below.step b01 hB
  replace hOW:=Lib.hid hOW
  replace hrow:=Lib.hid hrow
  go_wp2
  refine ⟨by simp,.inl ⟨_,_,rfl,run_takeDeferred hK,?_⟩⟩
  exact ⟨_,results_tmp2 rfl _ _ _,_,_,rfl,hB1.trans (belowK_b (w:=w) (Nat.le_refl _) W D _ _ (by omega) hK rfl rfl),rfl,(OwnN.num (ownsRow_putObj hOW.out _ hK rfl)).mono (by omega)⟩
 case stop =>
  rintro D c pre W _ _ h _
  exact h.elim
end Go.Proofs.YtjiadfblphdchaaGreatDoor
namespace Go.Proofs.YtjiadfblphdchaaGreatDoor
open Go.RowKit Go.Shelf
set_option maxRecDepth 100000
theorem code_lt {K : Nat} {T : List Int} (hK : K ≤ 4) (hs : Syms K T) (hl : T.length ≤ 256) : codeN K T < 4294967296 ^ 256:=by
 obtain ⟨zs,hzs⟩:=syms_sub hK hs
 rw [← sofar_code zs hzs]
 refine Nat.lt_of_lt_of_le (sofar_lt hK _) (Nat.pow_le_pow_right (by decide) ?_)
 rw [bwP_len]
 have : zs.length = T.length:=by rw [← hzs]; simp [valsS]
 omega
theorem dec_short {N : Nat} (h : N < 4294967296 ^ 256) : (txtW (decL N)).size ≤ 10000:=by
 have h1:=digA_len h
 have h2:=decL_len N
 unfold txtW
 rw [strOfNums_size]
 unfold dig8
 rw [List.length_map]
 omega
theorem conv_lit4 (W : World) (b : Nat) (x0 x1 x2 x3 : Int) (h0 : W.cell? ⟨b,0,none⟩ = some (.int .u8 x0)) (h1 : W.cell? ⟨b,1,none⟩ = some (.int .u8 x1)) (h2 : W.cell? ⟨b,2,none⟩ = some (.int .u8 x2)) (h3 : W.cell? ⟨b,3,none⟩ = some (.int .u8 x3)) :
 (convert 99 9 (.slice (some ⟨b,0,none⟩) 4 4)).run Tryz.prog W = .ok (.string (strOfNums [x0,x1,x2,x3])) W:=by
 refine run_convert_bytes_arg (P:=Tryz.prog) W 99 5 oneBytes.ht uByte b 0 4 4 [x0,x1,x2,x3] rfl (fun i hi => ?_) 9 uStr
 have : i = 0 ∨ i = 1 ∨ i = 2 ∨ i = 3:=by omega
 rcases this with rfl | rfl | rfl | rfl
 ·exact h0
 ·exact h1
 ·exact h2
 ·exact h3
set_option maxHeartbeats 2000000 in
theorem rule_text (r : Nat → Addr) (K R : Nat) (va : Option Addr) (vn vc : Nat) (T : List Int) (w : World) (hg : Glob r w) (h : IntsAt w (.slice va vn vc) T) (hr : RuleOk K R T) (hl : T.length ≤ 256) :
 Calls Tryz.prog 30 #[.agg #[.int .i64 K,.int .i64 R,.slice va vn vc]] w (Ret2 (fun x y _ => y = .nilIface ∧ x = .string (strOfNums [48 + (K : Int),46,48 + (R : Int),46] ++ txtW (decL (codeN K T)))) w):=by
 have b0:=belowAlloc w (.cells #[.int .i64 K,.int .i64 R,.slice va vn vc] 24)
 have q : Box3 (w.alloc (.cells #[.int .i64 K,.int .i64 R,.slice va vn vc] 24)) w.heap.size (.int .i64 K) (.int .i64 R) (.slice va vn vc):=by simp [Box3,go_sem]
 have hk4:=hr.k4
 have hr3:=hr.r3
 obtain ⟨N,hN⟩ : ∃ N,codeN K T = N:=⟨_,rfl⟩
 rw [hN]
 have hspec:=natL_spec N
 have hml : N < 4294967296 ^ 256:=by rw [← hN]; exact code_lt hr.k4 hr.syms hl
 have hsz : ¬ 9223372036854775807 < (strOfNums [48 + (K : Int),46,48 + (R : Int),46]).size + (txtW (decL N)).size:=by
  have:=dec_short hml
  rw [strOfNums_size]
  show ¬ 9223372036854775807 < 4 + _
  omega
 have hll:=natL_len hml
 replace hg:=Lib.hid (hg.below b0)
 replace h:=Lib.hid (h.below b0)
 replace hr:=Lib.hid hr
 replace hN:=Lib.hid hN
 obtain ⟨⟨z0,z1,z2⟩,-,-,-⟩:=id q
 go_enter Tryz.func30,Tryz.ntmps30
 go_wp2_with fail
 refine (rule_code r K R va vn vc T _ hg.out h.out hr.out hl).mono ?_
 rintro e w1 ⟨x,_,rfl,b1,rfl,hx⟩
 clear z0 z1 z2
 obtain ⟨⟨z0,z1,z2⟩,-,-,-⟩:=q.below b1
 rw [hN.out] at hx
 have hat:=hx.own.at
 obtain ⟨xa,xn,xc,rfl⟩:=hat.shape
 have htx : ∀ W : World,Below w1.heap.size w1 W → Calls Tryz.prog 65 #[.slice xa xn xc] W (Ret1 (fun x _ => x = .string (txtW (decL N))) W):=fun W hb => by
  have:=nat_text (.slice xa xn xc) (natL N) W (hat.below hb) hspec.1 (by omega)
  rwa [hspec.2.2] at this
 replace hx:=Lib.hid hx
 replace hat:=Lib.hid hat
 replace hspec:=Lib.hid hspec
 replace hml:=Lib.hid hml
 replace htx:=Lib.hid htx
 have wK1:=wrapK (x:=48 + (K : Int)) (by omega) (by omega)
 have wR1:=wrapK (x:=48 + (R : Int)) (by omega) (by omega)
 have wK2 : IntKind.u8.wrap (48 + (K : Int)) = 48 + (K : Int):=by rw [IntKind.wrap_u8]; omega
 have wR2 : IntKind.u8.wrap (48 + (R : Int)) = 48 + (R : Int):=by rw [IntKind.wrap_u8]; omega
 go_upto_region 4 with fail
 obtain ⟨W0,hW0⟩ : ∃ W0 : World,W0 = w1.drew:=⟨_,rfl⟩
 have b10 : Below w1.heap.size w1 W0:=by rw [hW0]; exact (Below.refl _ _).drew
 have hS0 : W0.cell? ⟨w.heap.size,0,none⟩ = some (.int .i64 K) ∧ W0.cell? ⟨w.heap.size,1,none⟩ = some (.int .i64 R):=by rw [hW0]; exact ⟨z0,z1⟩
 have hlow:=World.block_lt_of_cell? _ _ z0
 have hkeep : ∀ W : World,Below w1.heap.size w1 W → W.cell? ⟨w.heap.size,0,none⟩ = some (.int .i64 K) ∧ W.cell? ⟨w.heap.size,1,none⟩ = some (.int .i64 R):=fun W hb => ⟨(hb.cell (p:=⟨w.heap.size,0,none⟩) hlow).trans z0,(hb.cell (p:=⟨w.heap.size,1,none⟩) hlow).trans z1⟩
 replace hkeep:=Lib.hid hkeep
 refine wp_region_noPanic ?_
 refine wp_region_any (by kernel_rfl) ?_
 change wpAny _ _ _ _ _ _ _ (World.drew _)
 rw [← hW0]
 clear hW0 z0 z1 z2
 refine wpAny_of_held (S:=fun w' => w'.cell? ⟨w.heap.size,0,none⟩ = some (.int .i64 K) ∧ w'.cell? ⟨w.heap.size,1,none⟩ = some (.int .i64 R)) _ _ _ _ ?_
 refine pqD 0 14 hS0 ?_
 refine pqD 1 15 hS0 ?_
 refine pqD 2 16 hS0 ?_
 refine pqD 3 17 hS0 ?_
 refine pqD 4 18 hS0 ?_
 refine pqD 5 19 hS0 ?_
 refine pqD 6 20 hS0 ?_
 refine pqD 7 21 hS0 ?_
 refine pqD 10 24 hS0 ?_
 refine wpAnyH_ready (rs:=[8,11]) (by kernel_rfl) (by simp) (AllReadyH.cons rfl (fun KK hK => ?_) (AllReadyH.cons rfl (fun KK hK => ?_) AllReadyH.nil))
 ·go_simp
  have bl:=belowAlloc W0 (.cells #[.int .u8 (48 + (K : Int)),.int .u8 46,.int .u8 (48 + (R : Int)),.int .u8 46] 5)
  have cl : ∀ W : World,Below (W0.alloc (.cells #[.int .u8 (48 + (K : Int)),.int .u8 46,.int .u8 (48 + (R : Int)),.int .u8 46] 5)).heap.size (W0.alloc (.cells #[.int .u8 (48 + (K : Int)),.int .u8 46,.int .u8 (48 + (R : Int)),.int .u8 46] 5)) W → (convert 99 9 (.slice (some ⟨W0.heap.size,0,none⟩) 4 4)).run Tryz.prog W = .ok (.string (strOfNums [48 + (K : Int),46,48 + (R : Int),46])) W:=fun W hb =>
   conv_lit4 W W0.heap.size _ _ _ _ (by rw [hb.cell (by simp)]; simp) (by rw [hb.cell (by simp)]; simp) (by rw [hb.cell (by simp)]; simp) (by rw [hb.cell (by simp)]; simp)
  obtain ⟨L,hL⟩ : ∃ W' : World,W0.alloc (.cells #[.int .u8 (48 + (K : Int)),.int .u8 46,.int .u8 (48 + (R : Int)),.int .u8 46] 5) = W':=⟨_,rfl⟩
  rw [hL] at bl cl ⊢
  obtain ⟨g,hgn⟩ : ∃ g,W0.heap.size = g:=⟨_,rfl⟩
  rw [hgn] at cl ⊢
  have b1L:=Below.step b10 bl
  have hSL:=hkeep.out L b1L
  refine hK.out _ _ hSL fun _ => ?_
  clear hK KK hL
  replace hgn:=Lib.hid hgn
  replace cl:=Lib.hid cl
  refine wpAnyH_ready (rs:=[9,11]) (by kernel_rfl) (by simp) (AllReadyH.cons rfl (fun KK hK => ?_) (AllReadyH.cons rfl (fun KK hK => ?_) AllReadyH.nil))
  ·go_simp
   rw [cl.out L (Below.refl _ _)]
   go_simp
   refine hK.out _ _ hSL fun _ => ?_
   clear hK KK
   refine wpAnyH_ready (rs:=[11]) (by kernel_rfl) (by simp) (AllReadyH.cons rfl (fun KK hK => ?_) AllReadyH.nil)
   go_simp
   refine (htx.out L b1L).mono ?_
   rintro e C ⟨_,rfl,bc,rfl⟩
   have b1C:=Below.step b1L bc
   have hSC:=hkeep.out C b1C
   refine hK.out _ _ hSC fun _ => ?_
   clear hK KK
   refine pqD 12 26 hSC ?_
   refine pqD 13 2 hSC ?_
   refine pqD 14 3 hSC ?_
   refine wpAnyH_done (by kernel_rfl) ?_ _
   refine NoPanic.normal ?_
   have bE:=Below.step b0 (Below.step b1 b1C)
   go_wp2
   go_ret2
   exact ⟨_,_,rfl,bE,rfl,rfl⟩
  ·go_simp
   refine (htx.out L b1L).mono ?_
   rintro e C ⟨_,rfl,bc,rfl⟩
   have b1C:=Below.step b1L bc
   have hSC:=hkeep.out C b1C
   refine hK.out _ _ hSC fun _ => ?_
   clear hK KK
   refine wpAnyH_ready (rs:=[9]) (by kernel_rfl) (by simp) (AllReadyH.cons rfl (fun KK hK => ?_) AllReadyH.nil)
   go_simp
   rw [cl.out C bc]
   go_simp
   refine hK.out _ _ hSC fun _ => ?_
   clear hK KK
   refine pqD 12 26 hSC ?_
   refine pqD 13 2 hSC ?_
   refine pqD 14 3 hSC ?_
   refine wpAnyH_done (by kernel_rfl) ?_ _
   refine NoPanic.normal ?_
   have bE:=Below.step b0 (Below.step b1 b1C)
   go_wp2
   go_ret2
   exact ⟨_,_,rfl,bE,rfl,rfl⟩
 ·go_simp
  refine (htx.out W0 b10).mono ?_
  rintro e C ⟨_,rfl,bc,rfl⟩
  have b1C:=Below.step b10 bc
  have hSC:=hkeep.out C b1C
  refine hK.out _ _ hSC fun _ => ?_
  clear hK KK
  refine wpAnyH_ready (rs:=[8]) (by kernel_rfl) (by simp) (AllReadyH.cons rfl (fun KK hK => ?_) AllReadyH.nil)
  go_simp
  have bl:=belowAlloc C (.cells #[.int .u8 (48 + (K : Int)),.int .u8 46,.int .u8 (48 + (R : Int)),.int .u8 46] 5)
  have cl : (convert 99 9 (.slice (some ⟨C.heap.size,0,none⟩) 4 4)).run Tryz.prog (C.alloc (.cells #[.int .u8 (48 + (K : Int)),.int .u8 46,.int .u8 (48 + (R : Int)),.int .u8 46] 5)) = .ok (.string (strOfNums [48 + (K : Int),46,48 + (R : Int),46])) (C.alloc (.cells #[.int .u8 (48 + (K : Int)),.int .u8 46,.int .u8 (48 + (R : Int)),.int .u8 46] 5)) :=
   conv_lit4 _ C.heap.size _ _ _ _ (by simp) (by simp) (by simp) (by simp)
  obtain ⟨L,hL⟩ : ∃ W' : World,C.alloc (.cells #[.int .u8 (48 + (K : Int)),.int .u8 46,.int .u8 (48 + (R : Int)),.int .u8 46] 5) = W':=⟨_,rfl⟩
  rw [hL] at bl cl ⊢
  have b1L:=Below.step b1C bl
  have hSL:=hkeep.out L b1L
  refine hK.out _ _ hSL fun _ => ?_
  clear hK KK hL
  replace cl:=Lib.hid cl
  refine wpAnyH_ready (rs:=[9]) (by kernel_rfl) (by simp) (AllReadyH.cons rfl (fun KK hK => ?_) AllReadyH.nil)
  go_simp
  rw [cl.out]
  go_simp
  refine hK.out _ _ hSL fun _ => ?_
  clear hK KK
  refine pqD 12 26 hSL ?_
  refine pqD 13 2 hSL ?_
  refine pqD 14 3 hSL ?_
  refine wpAnyH_done (by kernel_rfl) ?_ _
  refine NoPanic.normal ?_
  have bE:=Below.step b0 (Below.step b1 b1L)
  go_wp2
  go_ret2
  exact ⟨_,_,rfl,bE,rfl,rfl⟩
end Go.Proofs.YtjiadfblphdchaaGreatDoor
namespace Go.Proofs.YtjiadfblphdchaaGreatDoor
open Go.RowKit
set_option maxRecDepth 100000
end Go.Proofs.YtjiadfblphdchaaGreatDoor
namespace Go.Proofs.YtjiadfblphdchaaGreatDoor
open Go.RowKit
set_option maxRecDepth 100000
/-- Each cell as it is. -/
def iT : List Int:=[0,0,1,1,0,0,1,1]
/-- The sum of both neighbours. -/
def nT : List Int:=[0,1,0,1,1,0,1,0]
theorem nT_ok : RuleOk 2 1 nT:=⟨by decide,by decide,by decide,by decide,fun x hx => by simp [nT] at hx; omega⟩
theorem img_same {z : Int} (hz : z = 0 ∨ z = 1) (n : Nat) : imgP 2 1 nT (List.replicate n z) = List.replicate (n - 2) 0:=by
 refine List.ext_getElem (by simp [imgP_length]) fun i h1 h2 => ?_
 simp only [imgP_length,List.length_replicate] at h1
 simp only [imgP,List.getElem_map,List.getElem_range,List.getElem_replicate,List.drop_replicate,List.take_replicate]
 rw [show min (2 * 1 + 1) (n - i) = 3 by omega]
 rcases hz with rfl | rfl <;> decide
theorem nT_not : NotOne 2 1 nT:=fun n =>
 ⟨List.replicate (2 * n + 1) 0,List.replicate (2 * n + 1) 1,fun x hx => by rw [List.eq_of_mem_replicate hx]; decide,fun x hx => by rw [List.eq_of_mem_replicate hx]; decide,by simp,by simp,
   by simp [List.getD,show n < 2 * n + 1 by omega],by rw [img_same (.inl rfl),img_same (.inr rfl)]⟩
end Go.Proofs.YtjiadfblphdchaaGreatDoor
namespace Go.Proofs.YtjiadfblphdchaaGreatDoor
open Go.RowKit
set_option maxRecDepth 100000
/-- A rule that is taken back is one to one. -/
theorem TakesBack.one {K R d : Nat} {T S : List Int} (h : TakesBack K R T d S) : ¬ NotOne K R T:=fun hn => by
 obtain ⟨x,y,sx,sy,lx,ly,hne,e⟩:=hn (R + d)
 refine hne ?_
 rw [← h x sx lx,← h y sy ly,e]
theorem find_one {K R : Nat} {T : List Int} {d : Nat} {S : List Int} (hr : RuleOk K R T) (h : findP K R T = some (d,S)) : ¬ NotOne K R T:=by
 obtain ⟨_,_,h1,_,_⟩:=find_some 4 0 h
 exact (try_takes hr h1).one
/-- Each cell becomes what stands to its right. -/
def rT : List Int:=[0,1,0,1,0,1,0,1]
theorem rT_ok : RuleOk 2 1 rT:=⟨by decide,by decide,by decide,by decide,fun x hx => by simp [rT] at hx; omega⟩
theorem rT_inv : RuleOk 2 1 [0,0,0,0,1,1,1,1]:=⟨by decide,by decide,by decide,by decide,fun x hx => by simp at hx; omega⟩
theorem rT_e : invE (2 : Nat) (1 : Nat) rT = none:=(invE_ok rT_ok (by decide)).2.2 (find_one rT_ok find_shift) (by show findP 2 1 rT ≠ none; rw [show findP 2 1 rT = _ from find_shift]; simp)
theorem nT_e : invE (2 : Nat) (1 : Nat) nT = fresh sInverse 0 9:=(invE_ok nT_ok (by decide)).1 nT_not
theorem txt240 : strOfNums [48 + ((2 : Nat) : Int),46,48 + ((1 : Nat) : Int),46] ++ txtW (decL (codeN 2 [0,0,0,0,1,1,1,1])) = ⟨#[50,46,49,46,50,52,48]⟩:=by
 rw [codeN_shift,decL_small]
 rfl
theorem heavy20 (k R : Int) (va : Option Addr) (vn vc : Nat) (T : List Int) (w : World) (h : IntsAt w (.slice va vn vc) T) :
 Calls Tryz.prog 9 #[.agg #[.int .i64 k,.int .i64 R,.slice va vn vc]] w (Ret1 (fun x _ => x = .bool (decide (64 < T.length))) w):=by
 have b0:=belowAlloc w (.cells #[.int .i64 k,.int .i64 R,.slice va vn vc] 24)
 have lT:=h.len
 replace h:=Lib.hid h
 go_enter Tryz.func9,Tryz.ntmps9
 go_wp2
 go_ret
 refine ⟨_,rfl,b0,?_⟩
 show Value.bool _ = Value.bool _
 congr 1
 rw [decide_eq_decide]
 omega
set_option maxHeartbeats 2000000 in
theorem awake20 (r : Nat → Addr) (w : World) (hg : Glob r w) (hG : GlobE w) : Calls Tryz.prog 8 #[] w (Ret1 (fun x _ => x = .bool true) w):=by
 have bl:=belowAlloc w (.cells #[.int .i64 0,.int .i64 1,.int .i64 0,.int .i64 1,.int .i64 0,.int .i64 1,.int .i64 0,.int .i64 1] 3)
 have hlit:=lit_ints w rT #[.int .i64 0,.int .i64 1,.int .i64 0,.int .i64 1,.int .i64 0,.int .i64 1,.int .i64 0,.int .i64 1] rfl (by decide)
 obtain ⟨w0,hw0⟩ : ∃ W : World,w.alloc (.cells #[.int .i64 0,.int .i64 1,.int .i64 0,.int .i64 1,.int .i64 0,.int .i64 1,.int .i64 0,.int .i64 1] 3) = W:=⟨_,rfl⟩
 rw [hw0] at bl hlit
 have b1:=belowAlloc w0 (.cells #[.int .i64 2,.int .i64 1,.slice (some ⟨w.heap.size,0,none⟩) 8 8] 24)
 have q : Box3 (w0.alloc (.cells #[.int .i64 2,.int .i64 1,.slice (some ⟨w.heap.size,0,none⟩) 8 8] 24)) w0.heap.size (.int .i64 2) (.int .i64 1) (.slice (some ⟨w.heap.size,0,none⟩) 8 8):=by simp [Box3,go_sem]
 have b01:=Below.step bl b1
 have hl1:=hlit.below b1
 obtain ⟨⟨z0,z1,z2⟩,-,-,-⟩:=q
 replace hlit:=Lib.hid hlit
 replace hl1:=Lib.hid hl1
 replace hg:=Lib.hid hg
 replace hG:=Lib.hid hG
 go_enter Tryz.func8,Tryz.ntmps8
 go_wp2_with fail
 refine (inv_rule r (2 : Nat) (1 : Nat) _ _ _ rT _ (hg.out.below b01) hl1.out).mono ?_
 rintro e w2 ⟨x,y,rfl,b2,hy,hx⟩
 rw [rT_e] at hy
 obtain rfl:=hy.none_eq
 obtain ⟨d,S,a,n,c,hf,rfl,ho⟩:=hx.1 rT_e
 rw [show findP ((2 : Nat) : Int).toNat ((1 : Nat) : Int).toNat rT = some (1,[0,0,0,0,1,1,1,1]) from find_shift] at hf
 obtain ⟨rfl,rfl⟩ : 1 = d ∧ [0,0,0,0,1,1,1,1] = S:=by
  injection hf with hf; injection hf with h1 h2; exact ⟨h1,h2⟩
 clear hx hy hf
 have b3:=belowAlloc w2 (.cells #[.int .i64 2,.int .i64 1,.slice a n c] 24)
 have q3 : Box3 (w2.alloc (.cells #[.int .i64 2,.int .i64 1,.slice a n c] 24)) w2.heap.size (.int .i64 2) (.int .i64 1) (.slice a n c):=by simp [Box3,go_sem]
 have b03:=Below.step (Below.step b01 b2) b3
 have ho3:=ho.below b3
 clear z0 z1 z2
 obtain ⟨⟨z0,z1,z2⟩,-,-,-⟩:=q3
 replace ho:=Lib.hid ho
 replace ho3:=Lib.hid ho3
 go_wp2_with fail
 refine (rule_text r 2 1 a n c _ _ (hg.out.below b03) ho3.out.at rT_inv (by decide)).mono ?_
 rintro e w4 ⟨_,_,rfl,b4,rfl,rfl⟩
 rw [txt240]
 have b04:=Below.step b03 b4
 have bl5:=belowAlloc w4 (.cells #[.int .i64 0,.int .i64 1,.int .i64 0,.int .i64 1,.int .i64 1,.int .i64 0,.int .i64 1,.int .i64 0] 3)
 have hlit5:=lit_ints w4 nT #[.int .i64 0,.int .i64 1,.int .i64 0,.int .i64 1,.int .i64 1,.int .i64 0,.int .i64 1,.int .i64 0] rfl (by decide)
 have b05:=Below.step b04 bl5
 replace hlit5:=Lib.hid hlit5
 clear z0 z1 z2
 go_wp2_with fail
 refine (inv_radius r (2 : Nat) (1 : Nat) _ _ _ nT _ (hg.out.below b05) hlit5.out).mono ?_
 rintro e w6 ⟨x,y,rfl,b6,hy,rfl⟩
 rw [nT_e] at hy
 have b06:=Below.step b05 b6
 have hy':=Lib.hid hy
 obtain ⟨T3,a3,rfl⟩:=hy.some_shape
 clear hy
 go_wp2_with fail
 refine (raw_new _ _ _ _).mono ?_
 rintro e w7 ⟨ev,rfl,b7,he⟩
 have b07:=Below.step b06 b7
 obtain ⟨e1,n1,c1,e2,n2,c2,rfl,hs1,hs2⟩:=he.at
 have he':=he.at
 replace he':=Lib.hid he'
 clear hs1 hs2 he
 go_wp2_with fail
 refine (raw_is r (fresh sInverse 0 9) _ _ _ (hg.out.below b07) (hG.out.below b07) (hy'.out.below b7) he'.out ⟨by decide,by decide,by decide⟩).mono ?_
 rintro e w8 ⟨_,rfl,b8,rfl⟩
 have b08:=Below.step b07 b8
 go_wp2
 go_ret
 exact ⟨_,rfl,b08,rfl⟩
end Go.Proofs.YtjiadfblphdchaaGreatDoor
namespace Go.Proofs.YtjiadfblphdchaaGreatDoor
open Go.RowKit
set_option maxRecDepth 100000
end Go.Proofs.YtjiadfblphdchaaGreatDoor
namespace Go.Proofs.YtjiadfblphdchaaGreatDoor
open Go.RowKit
set_option maxRecDepth 100000
end Go.Proofs.YtjiadfblphdchaaGreatDoor
namespace Go.Proofs.YtjiadfblphdchaaGreatDoor
open Go.RowKit
set_option maxRecDepth 100000
theorem EOwn.drew {B : Nat} {w : World} {t : PErr} {v : Value} (h : EOwn B w t v) : EOwn B w.drew t v:=by
 match t,h with
 | none,h => exact h
 | some (n,l),h => exact h
end Go.Proofs.YtjiadfblphdchaaGreatDoor
namespace Go.Proofs.YtjiadfblphdchaaGreatDoor
open Go.RowKit
set_option maxRecDepth 100000
end Go.Proofs.YtjiadfblphdchaaGreatDoor
namespace Go.Proofs.YtjiadfblphdchaaGreatDoor
open Go.RowKit
set_option maxRecDepth 100000
theorem checkP_num {k R : Int} {xs : List Int} {t : Int × List (ByteArray × Int)} (h : checkP k R xs = some t) : t.1 = 1 ∧ t.2.length = 1:=by
 unfold checkP fresh at h
 split at h
 ·cases h; exact ⟨rfl,rfl⟩
 ·split at h
  ·cases h; exact ⟨rfl,rfl⟩
  ·split at h
   ·cases h; exact ⟨rfl,rfl⟩
   ·split at h
    ·cases h
    ·cases h; exact ⟨rfl,rfl⟩
end Go.Proofs.YtjiadfblphdchaaGreatDoor
namespace Go.Proofs.YtjiadfblphdchaaGreatDoor
end Go.Proofs.YtjiadfblphdchaaGreatDoor
namespace Go.Proofs.YtjiadfblphdchaaGreatDoor
open Go.RowKit
set_option maxRecDepth 100000
end Go.Proofs.YtjiadfblphdchaaGreatDoor
namespace Go.Proofs.YtjiadfblphdchaaGreatDoor
open Go.RowKit
set_option maxRecDepth 100000
theorem ref_value (K : Nat) (u : Value) (ys : List Int) (w : World) (hk1 : 1 ≤ K) (hk4 : K ≤ 4) (hu : IntsAt w u ys) (hy : Syms K ys) (hyl : ys.length ≤ 7) :
 Calls Tryz.prog 60 #[.int .i64 K,u] w fun e w' => e = .returned (.int .i64 (numW K ys)) ∧ w = w':=by
 have l1:=hu.len
 replace hu:=Lib.hid hu
 replace hy:=Lib.hid hy
 go_enter Tryz.func60,Tryz.ntmps60
 go_wp2
 go_loop [5,6] (fun n i => ∃ j : Nat,j ≤ ys.length ∧ i = .int .i64 j ∧ n = .int .i64 (numW K (ys.take j))) (fun _ i => ys.length - (intOf i).toNat)
 case atStart => exact ⟨0,by omega,rfl,rfl⟩
 case round =>
  obtain ⟨j,hj,rfl,rfl⟩:=hrel
  by_cases hjl : j < ys.length
  ·have i1:=hu.out.idx j hjl
   have c1:=hu.out.cell j hjl
   have hx:=hy.out ys[j] (by simp)
   have hn : Hid (numW K (ys.take (j + 1)) = numW K (ys.take j) * K + ys[j].toNat):=by
    show _ = _
    rw [take_snoc ys j hjl,numW_snoc]
   have hn2 : numW K (ys.take j) ≤ 16384:=by
    have h1:=numW_lt (ys.take j) (fun x hx => hy.out x (List.mem_of_mem_take hx))
    have h2:=pw_le hk1 hk4 (i:=(ys.take j).length) (by simp; omega)
    omega
   generalize ys[j] = x at c1 hx hn
   generalize numW K (ys.take j) = N at hn hn2
   have hm1 : 0 ≤ (N : Int) * (K : Int):=Int.mul_nonneg (by omega) (by omega)
   have hm2 : (N : Int) * (K : Int) ≤ 65536:=by
    have : N * K ≤ 65536:=Nat.mul_le_mul hn2 hk4
    have h2:=Int.ofNat_le.2 this
    rw [Int.natCast_mul] at h2
    exact h2
   go_wp2
   go_round
   case rel => exact ⟨j + 1,by omega,by go_num,by rw [hn.out]; go_num⟩
   case measure => simp [intOf]; omega
  ·obtain rfl : j = ys.length:=by omega
   rw [List.take_length]
   go_wp2
   go_ret
   exact ⟨rfl,rfl⟩
theorem f05_fault (at_ k R : Int) (va : Option Addr) (vn vc : Nat) (xs : List Int) (w : World) (h : IntsAt w (.slice va vn vc) xs) :
 Calls Tryz.prog 164 #[.int .i64 at_,.agg #[.int .i64 k,.int .i64 R,.slice va vn vc]] w (Ret1 (fun x w' => EOwn w.heap.size w' (under sForms at_ (checkP k R xs)) x) w):=by
 have b0:=Below.step (belowAlloc w (.cells #[.int .i64 k,.int .i64 R,.slice va vn vc] 24)) (belowAlloc _ (.cells #[.int .i64 0,.slice none 0 0,.slice none 0 0] 37))
 have q4 : Box3 ((w.alloc (.cells #[.int .i64 k,.int .i64 R,.slice va vn vc] 24)).alloc (.cells #[.int .i64 0,.slice none 0 0,.slice none 0 0] 37)) (w.heap.size + 1) (.int .i64 0) (.slice none 0 0) (.slice none 0 0):=by simp [Box3,go_sem]
 replace h:=Lib.hid (h.below b0)
 go_enter Tryz.func164,Tryz.ntmps164
 go_wp2_with fail
 refine (ref_check k R va vn vc xs _ h.out).mono ?_
 rintro e w1 ⟨x,rfl,b1,he⟩
 go_wp2_with fail
 refine (raw_under _ at_ (checkP k R xs) x _ he.at (fun n l e => by
  have:=checkP_num e
  simp only at this
  exact ⟨by omega,by omega,by omega⟩)).mono ?_
 rintro e w2 ⟨x2,rfl,b2,he2⟩
 obtain ⟨q,a1,n1,c1,a2,n2,c2,rfl⟩:=he2.shape
 have q4':=q4.below (Below.step b1 b2)
 obtain ⟨⟨y0,y1,y2⟩,f0,f1,f2⟩:=q4'
 have hs:=b1.size
 simp only [World.size_alloc] at hs
 replace he2:=Lib.hid he2
 go_wp2
 exact bodyPost_ret (v:=.agg #[.int .i64 q,.slice a1 n1 c1,.slice a2 n2 c2]) (by simp [results,Tryz.results164,go_sem,y0,y1,y2]) rfl ⟨_,rfl,below_set3 (Below.step b0 (Below.step b1 b2)) (Nat.le_succ _) _ _ _,(he2.out.set3 (by omega) _ _ _).mono (by omega)⟩
end Go.Proofs.YtjiadfblphdchaaGreatDoor
namespace Go.Proofs.YtjiadfblphdchaaGreatDoor
/-- a is the first of which b, further on, is a repeat; ahead of b nothing repeats. -/
def FirstIs (img : Nat → List Int) (m a b : Nat) : Prop:=a < b ∧ b < m ∧ img a = img b ∧ ∀ x y,x < y → y < b → img x ≠ img y
def NoRepeat (img : Nat → List Int) (m : Nat) : Prop:=∀ x y,x < y → y < m → img x ≠ img y
theorem FirstIs.not {img : Nat → List Int} {m a b : Nat} (h : FirstIs img m a b) : ¬ NoRepeat img m:=fun k => k a b h.1 h.2.1 h.2.2.1
theorem NoRepeat.succ {img : Nat → List Int} {m : Nat} (h : NoRepeat img m) (k : ∀ x,x < m → img x ≠ img m) : NoRepeat img (m + 1):=fun x y h1 h2 => by
 by_cases e : y = m
 ·subst e; exact k x h1
 ·exact h x y h1 (by omega)
end Go.Proofs.YtjiadfblphdchaaGreatDoor
namespace Go.Proofs.YtjiadfblphdchaaGreatDoor
/-- What stands at a place of a row of whatever. -/
def cellA {α : Type} (d : α) (L C Q : List α) (i : Int) : α :=
 if i < 0 then L.getD (i % (L.length : Int)).toNat d
 else if i < C.length then C.getD i.toNat d
 else Q.getD ((i - C.length) % (Q.length : Int)).toNat d
theorem emod_next {a : Int} {n j : Nat} (hn : 1 ≤ n) (h : a % (n : Int) = j) : (a + 1) % (n : Int) = if j + 1 < n then ((j + 1 : Nat) : Int) else 0:=by
 have h1:=Int.emod_lt_of_pos a (show (0 : Int) < n by omega)
 have e : (a + 1) % (n : Int) = (((a % n) + 1) % n):=by rw [Int.emod_add_emod]
 rw [e,h]
 split
 ·exact Int.emod_eq_of_lt (by omega) (by omega)
 ·rw [show (j : Int) + 1 = n by omega]; exact Int.emod_self
/-- A way without ends: a loop, a way, a loop. -/
structure Bi (adj : Nat → List Nat) (L C Q : List Nat) : Prop where
 l1 : 1 ≤ L.length
 c1 : 1 ≤ C.length
 q1 : 1 ≤ Q.length
 sL : ∀ j,j + 1 < L.length → L.getD (j + 1) 0 ∈ adj (L.getD j 0)
 eL : L.getD 0 0 ∈ adj (L.getD (L.length - 1) 0)
 fC : C.getD 0 0 = L.getD 0 0
 sC : ∀ j,j + 1 < C.length → C.getD (j + 1) 0 ∈ adj (C.getD j 0)
 eC : Q.getD 0 0 ∈ adj (C.getD (C.length - 1) 0)
 sQ : ∀ j,j + 1 < Q.length → Q.getD (j + 1) 0 ∈ adj (Q.getD j 0)
 eQ : Q.getD (Q.length - 1) 0 = C.getD (C.length - 1) 0
theorem Bi.step {adj : Nat → List Nat} {L C Q : List Nat} (h : Bi adj L C Q) (i : Int) : cellA 0 L C Q (i + 1) ∈ adj (cellA 0 L C Q i):=by
 have l1:=h.l1
 have c1:=h.c1
 have q1:=h.q1
 unfold cellA
 by_cases h0 : i < 0
 ·rw [if_pos h0]
  obtain ⟨j,hj,e⟩:=emod_nat (a:=i) l1
  have e2:=emod_next l1 e
  rw [e,Int.toNat_natCast]
  by_cases h1 : i + 1 < 0
  ·rw [if_pos h1,e2]
   split
   ·rename_i hlt; rw [Int.toNat_natCast]; exact h.sL j hlt
   ·obtain rfl : j = L.length - 1:=by omega
    exact h.eL
  ·rw [if_neg h1,if_pos (by omega),show (i + 1).toNat = 0 by omega,h.fC]
   have : i = -1:=by omega
   subst this
   have e3 : (-1 : Int) + 1 = 0:=rfl
   rw [e3,Int.zero_emod] at e2
   have : j = L.length - 1:=by
    split at e2
    ·omega
    ·omega
   subst this
   exact h.eL
 ·rw [if_neg h0,if_neg (show ¬ i + 1 < 0 by omega)]
  by_cases h1 : i < C.length
  ·rw [if_pos h1]
   by_cases h2 : i + 1 < C.length
   ·rw [if_pos h2,show (i + 1).toNat = i.toNat + 1 by omega]; exact h.sC _ (by omega)
   ·rw [if_neg h2,show i + 1 - (C.length : Int) = 0 by omega,Int.zero_emod]
    have:=h.eC
    rw [show i.toNat = C.length - 1 by omega]
    exact this
  ·rw [if_neg h1,if_neg (show ¬ i + 1 < C.length by omega)]
   obtain ⟨j,hj,e⟩:=emod_nat (a:=i - C.length) q1
   have e2:=emod_next q1 e
   rw [show i + 1 - (C.length : Int) = i - C.length + 1 by omega,e2,e,Int.toNat_natCast]
   split
   ·rename_i hlt; rw [Int.toNat_natCast]; exact h.sQ j hlt
   ·obtain rfl : j = Q.length - 1:=by omega
    rw [h.eQ]; exact h.eC
end Go.Proofs.YtjiadfblphdchaaGreatDoor
namespace Go.Proofs.YtjiadfblphdchaaGreatDoor
end Go.Proofs.YtjiadfblphdchaaGreatDoor
namespace Go.Proofs.YtjiadfblphdchaaGreatDoor
open Go.RowKit
set_option maxRecDepth 100000
theorem err_box8 (w1 : World) (x0 x1 x2 : Value) :
 Below w1.heap.size w1 (w1.alloc (.cells #[x0,x1,x2] 37)) ∧ Box3 (w1.alloc (.cells #[x0,x1,x2] 37)) w1.heap.size x0 x1 x2:=by
 obtain ⟨y0,y1,y2,f⟩:=cells3 (Below.refl (w1.alloc (.cells #[x0,x1,x2] 37)).heap.size (w1.alloc (.cells #[x0,x1,x2] 37)))
 exact ⟨belowAlloc w1 _,⟨y0,y1,y2⟩,f⟩
theorem smallP_num {k R : Int} {T : List Int} {n : Int} {l : List (ByteArray × Int)} (h : smallP k R T = some (n,l)) : 1 ≤ n ∧ n ≤ 11 ∧ l.length = 1:=by
 unfold smallP at h
 cases hc : checkP k R T with
 | some t =>
  rw [hc] at h
  injection h with h
  subst h
  have:=checkP_num hc
  simp only at this
  omega
 | none =>
  rw [hc] at h
  dsimp only at h
  split at h
  ·injection h with h
   injection h with h1 h2
   subst h1; subst h2
   simp
  ·cases h
set_option maxHeartbeats 2000000 in
theorem ref_small (k R : Int) (va : Option Addr) (vn vc : Nat) (T : List Int) (w : World) (h : IntsAt w (.slice va vn vc) T) :
 Calls Tryz.prog 134 #[.agg #[.int .i64 k,.int .i64 R,.slice va vn vc]] w (Ret1 (fun x w' => EOwn w.heap.size w' (smallP k R T) x) w):=by
 have b0:=Below.step (belowAlloc w (.cells #[.int .i64 k,.int .i64 R,.slice va vn vc] 24)) (belowAlloc _ (.cells #[.int .i64 0,.slice none 0 0,.slice none 0 0] 37))
 have q : Box3 ((w.alloc (.cells #[.int .i64 k,.int .i64 R,.slice va vn vc] 24)).alloc (.cells #[.int .i64 0,.slice none 0 0,.slice none 0 0] 37)) w.heap.size (.int .i64 k) (.int .i64 R) (.slice va vn vc):=by simp [Box3,go_sem]
 have q4 : Box3 ((w.alloc (.cells #[.int .i64 k,.int .i64 R,.slice va vn vc] 24)).alloc (.cells #[.int .i64 0,.slice none 0 0,.slice none 0 0] 37)) (w.heap.size + 1) (.int .i64 0) (.slice none 0 0) (.slice none 0 0):=by simp [Box3,go_sem]
 have lT:=h.len
 have s0 : ((w.alloc (.cells #[.int .i64 k,.int .i64 R,.slice va vn vc] 24)).alloc (.cells #[.int .i64 0,.slice none 0 0,.slice none 0 0] 37)).heap.size = w.heap.size + 2:=by simp
 replace h:=Lib.hid (h.below b0)
 obtain ⟨e0,hsm,he0⟩ : ∃ e0,(smallP k R T = match e0 with | some t => some t | none => if 256 < T.length then fresh sRule 0 4 else none) ∧ checkP k R T = e0:=⟨_,rfl,rfl⟩
 replace he0:=Lib.hid he0
 replace s0:=Lib.hid s0
 go_enter Tryz.func134,Tryz.ntmps134
 go_wp2_with fail
 refine (ref_check k R va vn vc T _ h.out).mono ?_
 rintro e w1 ⟨x,rfl,b1,he⟩
 rw [he0.out] at he
 obtain ⟨qn,a1,n1,c1,a2,n2,c2,rfl⟩:=he.shape
 obtain ⟨be,bx⟩:=err_box8 w1 (.int .i64 qn) (.slice a1 n1 c1) (.slice a2 n2 c2)
 have c1e:=Below.step b1 be
 have q':=q.below c1e
 have q4':=q4.below c1e
 have heb:=he.below be
 have s1:=b1.size
 rw [s0.out] at s1
 obtain ⟨W2,hW2⟩ : ∃ W2 : World,w1.alloc (.cells #[.int .i64 qn,.slice a1 n1 c1,.slice a2 n2 c2] 37) = W2:=⟨_,rfl⟩
 have s2 : w1.heap.size < W2.heap.size:=by rw [← hW2]; simp
 have b02:=Below.step b0 c1e
 rw [hW2] at be bx c1e q' q4' heb b02
 replace hW2:=Lib.hid hW2
 obtain ⟨⟨y0,y1,y2⟩,-,-,-⟩:=bx
 have hq : (qn != 0) = e0.isSome:=by
  cases e0 with
  | none =>
   have : Value.agg #[.int .i64 qn,.slice a1 n1 c1,.slice a2 n2 c2] = .agg #[.int .i64 0,.slice none 0 0,.slice none 0 0]:=he
   injection this with this
   injection this with this
   injection this with h1 h2
   injection h1 with _ h1
   rw [h1]; rfl
  | some t =>
   obtain ⟨n,l⟩:=t
   obtain ⟨_,_,_,_,_,_,e,_⟩:=he
   injection e with e
   injection e with e
   injection e with h1 h2
   injection h1 with _ h1
   have:=checkP_num he0.out
   simp only at this
   rw [h1,this.1]; rfl
 replace he:=Lib.hid he
 replace heb:=Lib.hid heb
 go_upto_region 2 with fail
 rw [hW2.out]
 go_wp2_with fail
 refine (err_bad _ _ _ _ _ _ _ W2).mono ?_
 rintro e w3 ⟨_,rfl,b3,rfl⟩
 rw [hq]
 replace hq:=Lib.hid hq
 have hey:=heb.out.below b3
 have bxx : Box3 W2 w1.heap.size (.int .i64 qn) (.slice a1 n1 c1) (.slice a2 n2 c2) → True:=fun _ => trivial
 clear bxx
 have y0':=(b3.cell (World.block_lt_of_cell? _ _ y0)).trans y0
 have y1':=(b3.cell (World.block_lt_of_cell? _ _ y1)).trans y1
 have y2':=(b3.cell (World.block_lt_of_cell? _ _ y2)).trans y2
 obtain ⟨⟨z0,z1,z2⟩,-,-,-⟩:=q'.below b3
 obtain ⟨⟨u0,u1,u2⟩,f0,f1,f2⟩:=q4'.below b3
 have b03:=Below.step b02 b3
 clear y0 y1 y2
 cases e0 with
 | some t =>
  simp only [] at hsm
  replace hsm:=Lib.hid hsm
  replace hey:=Lib.hid hey
  go_wp2
  refine bodyPost_ret (v:=.agg #[.int .i64 qn,.slice a1 n1 c1,.slice a2 n2 c2]) (by simp [results,Tryz.results134,go_sem,u0,u1,u2]) rfl ⟨_,rfl,below_set3 b03 (by omega) _ _ _,?_⟩
  rw [hsm.out]
  refine ((hey.out.set3 ?_ _ _ _)).mono ?_
  ·have:=s0.out; omega
  ·have:=s0.out; omega
 | none =>
  simp only [] at hsm
  by_cases hl : 256 < T.length
  ·rw [if_pos hl] at hsm
   have d1 : decide ((256 : Int) < (T.length : Int)) = true:=decide_eq_true (by omega)
   replace hsm:=Lib.hid hsm
   replace hey:=Lib.hid hey
   go_wp2_with fail
   refine (raw_new _ _ _ _).mono ?_
   rintro e w4 ⟨x4,rfl,b4,he4⟩
   obtain ⟨q9,a9,n9,c9,a8,n8,c8,rfl⟩:=he4.shape
   have bb:=Below.step b03 b4
   obtain ⟨⟨u0',u1',u2'⟩,g0,g1,g2⟩:=q4.below (Below.step c1e (Below.step b3 b4))
   have s4:=(Below.step b3 b4).size
   replace he4:=Lib.hid he4
   clear u0 u1 u2 f0 f1 f2 z0 z1 z2 y0' y1' y2'
   go_wp2
   refine bodyPost_ret (v:=.agg #[.int .i64 q9,.slice a9 n9 c9,.slice a8 n8 c8]) (by simp [results,Tryz.results134,go_sem,u0',u1',u2']) rfl ⟨_,rfl,below_set3 bb (by omega) _ _ _,?_⟩
   rw [hsm.out]
   have s3:=b3.size
   exact (he4.out.set3 (by omega) _ _ _).mono (by omega)
  ·rw [if_neg hl] at hsm
   have d1 : decide ((256 : Int) < (T.length : Int)) = false:=decide_eq_false (by omega)
   replace hsm:=Lib.hid hsm
   replace hey:=Lib.hid hey
   go_wp2
   refine bodyPost_ret (v:=.agg #[.int .i64 qn,.slice a1 n1 c1,.slice a2 n2 c2]) (by simp [results,Tryz.results134,go_sem,u0,u1,u2]) rfl ⟨_,rfl,below_set3 b03 (by omega) _ _ _,?_⟩
   rw [hsm.out]
   refine ((hey.out.set3 ?_ _ _ _)).mono ?_
   ·have:=s0.out; omega
   ·have:=s0.out; omega
theorem ref08_fault (op : ByteArray) (k R : Int) (va : Option Addr) (vn vc : Nat) (T : List Int) (w : World) (h : IntsAt w (.slice va vn vc) T) :
 Calls Tryz.prog 107 #[.string op,.agg #[.int .i64 k,.int .i64 R,.slice va vn vc]] w (Ret1 (fun x w' => EOwn w.heap.size w' (under op 0 (smallP k R T)) x) w):=by
 have b0:=Below.step (belowAlloc w (.cells #[.int .i64 k,.int .i64 R,.slice va vn vc] 24)) (belowAlloc _ (.cells #[.int .i64 0,.slice none 0 0,.slice none 0 0] 37))
 have q4 : Box3 ((w.alloc (.cells #[.int .i64 k,.int .i64 R,.slice va vn vc] 24)).alloc (.cells #[.int .i64 0,.slice none 0 0,.slice none 0 0] 37)) (w.heap.size + 1) (.int .i64 0) (.slice none 0 0) (.slice none 0 0):=by simp [Box3,go_sem]
 replace h:=Lib.hid (h.below b0)
 go_enter Tryz.func107,Tryz.ntmps107
 go_wp2_with fail
 refine (ref_small k R va vn vc T _ h.out).mono ?_
 rintro e w1 ⟨x,rfl,b1,he⟩
 go_wp2_with fail
 refine (raw_under _ 0 (smallP k R T) x _ he.at (fun n l e => by
  have:=smallP_num e
  exact ⟨by omega,by omega,by omega⟩)).mono ?_
 rintro e w2 ⟨x2,rfl,b2,he2⟩
 obtain ⟨q,a1,n1,c1,a2,n2,c2,rfl⟩:=he2.shape
 have q4':=q4.below (Below.step b1 b2)
 obtain ⟨⟨y0,y1,y2⟩,f0,f1,f2⟩:=q4'
 have hs:=b1.size
 simp only [World.size_alloc] at hs
 replace he2:=Lib.hid he2
 go_wp2
 exact bodyPost_ret (v:=.agg #[.int .i64 q,.slice a1 n1 c1,.slice a2 n2 c2]) (by simp [results,Tryz.results107,go_sem,y0,y1,y2]) rfl ⟨_,rfl,below_set3 (Below.step b0 (Below.step b1 b2)) (Nat.le_succ _) _ _ _,(he2.out.set3 (by omega) _ _ _).mono (by omega)⟩
end Go.Proofs.YtjiadfblphdchaaGreatDoor
