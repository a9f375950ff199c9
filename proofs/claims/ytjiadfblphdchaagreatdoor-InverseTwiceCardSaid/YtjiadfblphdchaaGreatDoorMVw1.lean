/-
  Proved: the law edenlaw20.InverseTwice as its tied card: it returns true and never panics, for any rule. No conditions beyond the card's own.
  Walk: edenlaw20.InverseTwice returns true.
-/
import Derived.Test.YtjiadfblphdchaaGreatDoorMVb11
import Derived.Test.YtjiadfblphdchaaGreatDoorCards
import Derived.Test.YtjiadfblphdchaaGreatDoorTie
import Derived.SevenTiedAt
namespace Go.Proofs.YtjiadfblphdchaaGreatDoor
open Go.RowKit
set_option maxRecDepth 100000
set_option maxHeartbeats 4000000 in
theorem inverseTwice_any (r : Nat → Addr) (k R : Int) (v : Value) (T : List Int) (w : World) (hg : Glob r w) (hG : GlobE w) (h : IntsAt w v T) :
 Calls Tryz.prog 7 #[.agg #[.int .i64 k,.int .i64 R,v]] w (Ret1 (fun x _ => x = .bool true) w):=by
 obtain ⟨va,vn,vc,rfl⟩:=h.shape
 have b0:=belowAlloc w (.cells #[.int .i64 k,.int .i64 R,.slice va vn vc] 24)
 have q : Box3 (w.alloc (.cells #[.int .i64 k,.int .i64 R,.slice va vn vc] 24)) w.heap.size (.int .i64 k) (.int .i64 R) (.slice va vn vc):=by simp [Box3,go_sem]
 replace hg:=Lib.hid (hg.below b0)
 replace hG:=Lib.hid (hG.below b0)
 replace h:=Lib.hid (h.below b0)
 obtain ⟨tl,htl⟩ : ∃ tl,T.length = tl:=⟨_,rfl⟩
 replace htl:=Lib.hid htl
 go_enter Tryz.func7,Tryz.ntmps7
 go_wp2_with fail
 refine (awake20 r _ hg.out hG.out).mono ?_
 rintro e w1 ⟨_,rfl,b1,rfl⟩
 obtain ⟨⟨q_0,q_1,q_2⟩,-,-,-⟩:=(q.below b1)
 go_wp2_with fail
 refine (heavy20 k R va vn vc T _ (h.out.below b1)).mono ?_
 rintro e w2 ⟨_,rfl,b2,rfl⟩
 rw [htl.out]
 clear q_0 q_1 q_2
 by_cases hh : 64 < tl
 ·have dh : decide (64 < tl) = true:=decide_eq_true hh
  have c0_2:=Below.step b1 b2
  have bE:=Below.step b0 c0_2
  go_wp2
  go_ret
  exact ⟨_,rfl,bE,rfl⟩
 have dh : decide (64 < tl) = false:=decide_eq_false hh
 have c0_2:=Below.step b1 b2
 obtain ⟨⟨q_0,q_1,q_2⟩,-,-,-⟩:=(q.below c0_2)
 go_wp2_with fail
 refine (inv_rule r k R va vn vc T _ (hg.out.below c0_2) (h.out.below c0_2)).mono ?_
 rintro e w3 ⟨x,y,rfl,b3,hy,hx⟩
 obtain ⟨k3,q3,a3,n3,m3,rfl⟩:=hx.shape
 have al3:=(belowAlloc w3 (.cells #[.int .i64 k3,.int .i64 q3,.slice a3 n3 m3] 24))
 have d3:=Below.step b3 al3
 clear q_0 q_1 q_2
 cases hE : invE k R T with
 | some t =>
  rw [hE] at hy
  obtain ⟨T4,p4,rfl⟩:=hy.some_shape
  have c0_3:=Below.step c0_2 d3
  have bE:=Below.step b0 c0_3
  replace hE:=Lib.hid hE
  replace hx:=Lib.hid hx
  replace hy:=Lib.hid hy
  go_wp2
  go_ret
  exact ⟨_,rfl,bE,rfl⟩
 | none =>
  rw [hE] at hy
  obtain rfl:=hy.none_eq
  clear hy
  obtain ⟨K,Q,d,S,a9,n9,m9,rfl,rfl,hl,e1,ho,hF⟩:=hx.found hE
  injection e1 with e1
  simp only [Array.mk.injEq,List.cons.injEq,Value.int.injEq,Value.slice.injEq,true_and,and_true] at e1
  obtain ⟨rfl,rfl,rfl,rfl,rfl⟩:=e1
  have s : Box3 (w3.alloc (.cells #[.int .i64 K,.int .i64 d,.slice a3 n3 m3] 24)) w3.heap.size (.int .i64 K) (.int .i64 d) (.slice a3 n3 m3):=by simp [Box3,go_sem]
  replace ho:=ho.below al3
  have hQ3:=hF.rule.r3
  have hd3:=hF.inv.r3
  obtain ⟨sl,hsl⟩ : ∃ t,S.length = t:=⟨_,rfl⟩
  have lT:=h.out.len
  rw [htl.out] at lT
  replace hE:=Lib.hid hE
  replace hx:=Lib.hid hx
  replace ho:=Lib.hid ho
  replace hF:=Lib.hid hF
  replace hl:=Lib.hid hl
  replace hsl:=Lib.hid hsl
  have c0_3:=Below.step c0_2 d3
  obtain ⟨⟨q_0,q_1,q_2⟩,-,-,-⟩:=(q.below c0_3)
  obtain ⟨⟨s_0,s_1,s_2⟩,-,-,-⟩:=id s
  go_upto_region 8 with fail
  go_cut [43] from 20 (fun s43 wx => s43 = .bool false ∧ Below (w3.alloc (.cells #[.int .i64 K,.int .i64 d,.slice a3 n3 m3] 24)).heap.size (w3.alloc (.cells #[.int .i64 K,.int .i64 d,.slice a3 n3 m3] 24)) wx)
  case first =>
   by_cases h1 : 1 < tl
   ·have d1 : decide ((1 : Int) < (tl : Int)) = true:=decide_eq_true (by omega)
    by_cases h3 : Q + d ≤ 3
    ·have d3 : decide ((Q : Int) + (d : Int) ≤ 3) = true:=decide_eq_true (by omega)
     have hc1:=chkE_takes hF.out.rule hF.out.inv (by omega) hF.out.takes
     have hc2:=chkE_takes hF.out.inv hF.out.rule (by omega) hF.out.back
     replace hc1:=Lib.hid hc1
     replace hc2:=Lib.hid hc2
     go_wp2_with fail
     refine (inv_check r K Q va vn vc T K d a3 n3 m3 S _ (hg.out.below c0_3) (h.out.below c0_3) ho.out.at).mono ?_
     rintro e w4 ⟨x4,rfl,b4,he4⟩
     rw [hc1.out] at he4
     obtain rfl:=he4.none_eq
     clear he4
     clear q_0 q_1 q_2 s_0 s_1 s_2
     have c0_4:=Below.step c0_3 b4
     obtain ⟨⟨q_0,q_1,q_2⟩,-,-,-⟩:=(q.below c0_4)
     obtain ⟨⟨s_0,s_1,s_2⟩,-,-,-⟩:=(s.below b4)
     go_wp2_with fail
     refine (inv_check r K d a3 n3 m3 S K Q va vn vc T _ (hg.out.below c0_4) (ho.out.below b4).at (h.out.below c0_4)).mono ?_
     rintro e w5 ⟨x5,rfl,b5,he5⟩
     rw [hc2.out] at he5
     obtain rfl:=he5.none_eq
     clear he5
     clear q_0 q_1 q_2 s_0 s_1 s_2
     have c3_5:=Below.step b4 b5
     have bc:=c3_5
     go_wp2
     go_meet
     case rel => exact ⟨rfl,bc⟩
    ·have d3 : decide ((Q : Int) + (d : Int) ≤ 3) = false:=decide_eq_false (by omega)
     go_wp2
     go_meet
     case rel => exact ⟨rfl,Below.refl _ _⟩
   ·have d1 : decide ((1 : Int) < (tl : Int)) = false:=decide_eq_false (by omega)
    go_wp2
    go_meet
    case rel => exact ⟨rfl,Below.refl _ _⟩
  case rest =>
   obtain ⟨rfl,b4⟩:=hcut
   clear q_0 q_1 q_2 s_0 s_1 s_2
   have c0_4:=Below.step c0_3 b4
   obtain ⟨⟨q_0,q_1,q_2⟩,-,-,-⟩:=(q.below c0_4)
   go_wp2_with fail
   refine (narrow_ok r K Q va vn vc T _ (hg.out.below c0_4) (h.out.below c0_4) hF.out.rule).mono ?_
   rintro e w5 ⟨_,_,rfl,b5,rfl,Q5,N5,a5,n5,m5,rfl,ho5,hN5⟩
   have al5:=(belowAlloc w5 (.cells #[.int .i64 K,.int .i64 Q5,.slice a5 n5 m5] 24))
   have d5:=Below.step b5 al5
   have m : Box3 (w5.alloc (.cells #[.int .i64 K,.int .i64 Q5,.slice a5 n5 m5] 24)) w5.heap.size (.int .i64 K) (.int .i64 Q5) (.slice a5 n5 m5):=by simp [Box3,go_sem]
   replace ho5:=ho5.below al5
   clear q_0 q_1 q_2
   replace ho5:=Lib.hid ho5
   replace hN5:=Lib.hid hN5
   have c3_5:=Below.step b4 d5
   obtain ⟨⟨s_0,s_1,s_2⟩,-,-,-⟩:=(s.below c3_5)
   have c0_5:=Below.step c0_4 d5
   go_wp2_with fail
   refine (inv_rule r K d a3 n3 m3 S _ (hg.out.below c0_5) (ho.out.below c3_5).at).mono ?_
   rintro e w6 ⟨x,y,rfl,b6,hy,hx⟩
   clear s_0 s_1 s_2
   obtain ⟨k6,q6,a6,n6,m6,rfl⟩:=hx.shape
   have al6:=(belowAlloc w6 (.cells #[.int .i64 k6,.int .i64 q6,.slice a6 n6 m6] 24))
   have d6:=Below.step b6 al6
   have t : Box3 (w6.alloc (.cells #[.int .i64 k6,.int .i64 q6,.slice a6 n6 m6] 24)) w6.heap.size (.int .i64 k6) (.int .i64 q6) (.slice a6 n6 m6):=by simp [Box3,go_sem]
   have c3_6:=Below.step c3_5 d6
   obtain ⟨⟨s_0,s_1,s_2⟩,-,-,-⟩:=(s.below c3_6)
   have hy2:=hy
   replace hy:=Lib.hid hy
   replace hx:=Lib.hid hx
   rcases hy2.open2 with rfl | ⟨T6,p6,rfl⟩
   ·clear hy2
    go_wp2_with fail
    refine (heavy20 K d a3 n3 m3 S _ (ho.out.below c3_6).at).mono ?_
    rintro e w7 ⟨_,rfl,b7,rfl⟩
    clear s_0 s_1 s_2
    rw [hsl.out]
    by_cases hs : 64 < sl
    ·have ds : decide (64 < sl) = true:=decide_eq_true hs
     have c0_6:=Below.step c0_5 d6
     have c0_7:=Below.step c0_6 b7
     have bE:=Below.step b0 c0_7
     go_wp2
     go_ret
     exact ⟨_,rfl,bE,rfl⟩
    ·have ds : decide (64 < sl) = false:=decide_eq_false hs
     have hE2:=hF.out.twice hN5.out (by rw [hsl.out]; omega)
     obtain ⟨d2,S2,a2,n2,m2,hf2,e2,ho2⟩:=hx.out.1 hE2.1
     rw [Int.toNat_natCast,Int.toNat_natCast,hE2.2] at hf2
     injection hf2 with hf2
     injection hf2 with f1 f2
     subst f1
     subst f2
     injection e2 with e2
     simp only [Array.mk.injEq,List.cons.injEq,Value.int.injEq,Value.slice.injEq,true_and,and_true] at e2
     obtain ⟨rfl,rfl,rfl,rfl,rfl⟩:=e2
     replace ho2:=ho2.below al6
     have c5_7:=Below.step d6 b7
     have hrul:=rules_any K Q5 K Q5 a6 n6 m6 a5 n5 m5 N5 N5 w7 (ho2.below b7).at (ho5.out.below c5_7).at
     have hkk : ((K : Int) == (K : Int) && ((Q5 : Int) == (Q5 : Int) && decide (N5 = N5))) = true:=by simp
     rw [hkk] at hrul
     replace hrul:=Lib.hid hrul
     replace ho2:=Lib.hid ho2
     clear hE2 hkk
     obtain ⟨⟨t_0,t_1,t_2⟩,-,-,-⟩:=(t.below b7)
     obtain ⟨⟨m_0,m_1,m_2⟩,-,-,-⟩:=(m.below c5_7)
     go_wp2_with fail
     refine (hrul.out).mono ?_
     rintro e w8 ⟨_,rfl,b8,rfl⟩
     clear t_0 t_1 t_2 m_0 m_1 m_2
     have c0_6:=Below.step c0_5 d6
     have c0_7:=Below.step c0_6 b7
     have c0_8:=Below.step c0_7 b8
     have bE:=Below.step b0 c0_8
     go_wp2
     go_ret
     exact ⟨_,rfl,bE,rfl⟩
   ·clear hy2
    go_wp2_with fail
    refine (heavy20 K d a3 n3 m3 S _ (ho.out.below c3_6).at).mono ?_
    rintro e w7 ⟨_,rfl,b7,rfl⟩
    clear s_0 s_1 s_2
    rw [hsl.out]
    by_cases hs : 64 < sl
    ·have ds : decide (64 < sl) = true:=decide_eq_true hs
     have c0_6:=Below.step c0_5 d6
     have c0_7:=Below.step c0_6 b7
     have bE:=Below.step b0 c0_7
     go_wp2
     go_ret
     exact ⟨_,rfl,bE,rfl⟩
    ·have ds : decide (64 < sl) = false:=decide_eq_false hs
     have hE2:=hF.out.twice hN5.out (by rw [hsl.out]; omega)
     have hy2:=hy.out
     rw [hE2.1] at hy2
     have:=hy2.none_eq
     cases this
end Go.Proofs.YtjiadfblphdchaaGreatDoor
namespace Go.Proofs.YtjiadfblphdchaaGreatDoor
open Go.ChangeShapes Go.WideShapes Go.ChangeAt Go.RowKit Go.Joins
namespace InverseTwiceP
set_option maxRecDepth 100000 in
theorem door_met (os : Os) (args : Array Value) : laidMetH Tryz.prog Rows.inverseTwiceRow.laid ((doorP os).forCall (fun _ _ => 0) ⟨#[],args,[]⟩).memory :=
 laidMetH_of_parts3 (fuel:=8) (laidMet_of_run' 8 (by kernel_rfl) (by kernel_rfl)) (by kernel_rfl) (by kernel_rfl)
set_option maxRecDepth 100000 in
theorem lifted (os : Os) (started : os.Started) (H : Type) (enc : TypeId × Value → H) :
 ReturnsInHanded {} Tryz.checked os 7 .any (fun w args => (Rows.inverseTwiceSpec.pre enc Tryz.prog Tryz.f7 [] false w args ∧ laidMetH Tryz.prog Rows.inverseTwiceRow.laid w) ∧ sizedMet enc Tryz.prog Tryz.f7 (OpenSpec.ofChange Rows.inverseTwiceSpec) false w args)
  (Rows.inverseTwiceSpec.post enc Tryz.prog Tryz.f7 false true false false):=by
 refine returnsInHanded_of_change_and (C:=Tryz.checked) (X:=fun w _ => laidMetH Tryz.prog Rows.inverseTwiceRow.laid w) (fun _ _ _ hh h => h.of_heap hh) own started (by kernel_rfl) Tryz.func7
  (ChangeSpec.witness_shaped (enc:=enc) (C:=Tryz.checked) (os:=os) (X:=fun w _ => laidMetH Tryz.prog Rows.inverseTwiceRow.laid w) false (doorP os) #[.agg #[.int .i64 0,.int .i64 0,.slice none 0 0]] 8 (doorP_os _) (World.shaped_of_RefB (by kernel_rfl) (by kernel_rfl)) (by kernel_rfl) (by kernel_rfl) (by kernel_rfl) (door_met os _)) ?_
 intro W base args ds gs before hval0 hW _ hsz hL _
 have hval : ∀ (j : Nat) t v,Tryz.f7.params[j]? = some t → args[j]? = some v → Value.okWide Tryz.prog W .any base t v:=hval0
 have hW':=hW
 obtain ⟨p,q,hA0,hV,rfl,hfz,hnd⟩:=hW
 have hA : DataW.TrodAll enc Tryz.prog W 0 (fun _ => true) true Tryz.f7.params.toList args.toList ds p:=hA0
 rw [Tryz.params7] at hA hval hsz
 obtain ⟨v0,vs0,d0,ds0,p0,q0,hargs,rfl,rfl,g0,t0⟩:=trodAll_cons hA
 obtain ⟨rfl,rfl,rfl⟩:=trodAll_nil t0
 obtain rfl : args = #[v0]:=by cases args; simp_all
 obtain ⟨rfl,rfl⟩:=trodVars_none hV
 have kk0:=g0
 have lt0 : ∀ x ∈ p0,x.block < W.heap.size:=by obtain ⟨m,hm⟩:=kk0; exact DataW.trod_lt m _ _ _ hm
 obtain ⟨kr0,rr0,u0,x0,rfl,h0,l0,b0,bk0,br0⟩:=open_ruleV (hval 0 24 v0 rfl rfl) g0 (fun n hn => by
  have:=List.all_eq_true.1 hsz n (DataW.weights_mem_each (j:=0) (t:=24) rfl rfl n hn)
  simpa using this)
 obtain ⟨r,hg,hG⟩:=glob_of_laidP (W:=W) (by
  exact hL)
 clear hA0 hval0
 refine (inverseTwice_any r kr0 rr0 u0 x0 W hg hG h0).mono fun e W' ⟨x,he,bel,hxx⟩ => ?_
 subst he; subst hxx
 exact ⟨_,rfl,_,_,_,[],_,[],hW',trodAll_mk1 (shut_bool Tryz.underlying4 _),(trodAll_cons_mk (Below.trod laidOut (by kernel_rfl) (of_decide_eq_true (by kernel_rfl)) kk0 bel lt0) trodAll_mk0),rfl,bel.frame _,fun h => by cases h⟩
theorem and_t {a b : Bool} (h : a = true) (k : b = true) : (a && b) = true:=by rw [h,k]; rfl
theorem jf_wf : Rows.inverseTwiceRow.wf (OpenSpec.ofChange Rows.inverseTwiceSpec) = true:=by kernel_rfl
theorem jf_lo : laidOutB Tryz.prog = true:=by kernel_rfl
theorem jf_mr : mapsRowed Tryz.prog = true:=by kernel_rfl
theorem jf_nt : namedTie Tryz.prog Rows.inverseTwiceRow.named Rows.inverseTwiceSpec.vars = true:=by kernel_rfl
theorem jf_ip : (Rows.inverseTwiceRow.inPlace == Tryz.prog.inPlace 7) = true:=by kernel_rfl
theorem jf_uf : (Rows.inverseTwiceRow.unfollowed == Tryz.prog.unfollowed 7) = true:=by kernel_rfl
theorem jf_rc : (Rows.inverseTwiceRow.recurses == Tryz.prog.recurses 7) = true:=by kernel_rfl
theorem jf_nm : (Rows.inverseTwiceRow.named == Tryz.prog.varsNamed 7) = true:=by kernel_rfl
theorem jf_pk : (Rows.inverseTwiceRow.plainKeys == Tryz.prog.plainKeys) = true:=by kernel_rfl
theorem jf_sh : Tryz.prog.stopsHeard = true:=by kernel_rfl
theorem jf_me : Tryz.prog.mayEnter = true:=by kernel_rfl
theorem jf_lf : (Rows.inverseTwiceRow.lifted == Tryz.prog.liftsFinal) = true:=by kernel_rfl
theorem jf_mk : (Tryz.prog.make == some Rows.inverseTwiceRow.make) = true:=by kernel_rfl
theorem joined : joinedFacts Tryz.prog 7 Tryz.f7 Rows.inverseTwiceSpec Rows.inverseTwiceRow = true:=and_t (and_t (and_t (and_t (and_t (and_t (and_t (and_t (and_t (and_t (and_t (and_t (and_t (and_t (and_t (and_t (and_t (and_t (and_t (and_t (and_t (and_t (and_t (and_t (and_t (and_t (and_t (and_t (and_t (and_t (and_t jf_wf jf_lo) jf_mr) (by kernel_rfl)) jf_nt) (by kernel_rfl)) (by kernel_rfl)) (by kernel_rfl)) (by kernel_rfl)) jf_ip) jf_uf) jf_rc) jf_nm) (by kernel_rfl)) (by kernel_rfl)) (by kernel_rfl)) (by kernel_rfl)) (by kernel_rfl)) (by kernel_rfl)) (by kernel_rfl)) (by kernel_rfl)) (by kernel_rfl)) jf_pk) (by kernel_rfl)) jf_sh) jf_me) jf_lf) jf_mk) (by kernel_rfl)) (by kernel_rfl)) (by kernel_rfl)) (by kernel_rfl)
theorem fnamed : Tryz.prog.funcNamed Rows.inverseTwiceRow.func = some 7:=by kernel_rfl
theorem inst : Tryz.f7.isInstance Tryz.prog Rows.inverseTwiceRow.origin Rows.inverseTwiceRow.targs:=of_decide_eq_true (by kernel_rfl)
theorem wrapd : Tryz.f7.isWrapper Tryz.prog Rows.inverseTwiceRow.wrapper Rows.inverseTwiceRow.mainSum:=by unfold Func.isWrapper; first | (rw [if_pos (by decide +kernel)]; kernel_rfl) | (rw [if_neg (by decide +kernel)]; exact ⟨rfl,rfl⟩)
theorem over : Rows.InverseTwiceSaid :=
 OpenClaim.holds_of_wide 7 Tryz.f7 rfl rfl rfl rfl rfl rfl rfl ⟨rfl,rfl,rfl,rfl,rfl⟩ rfl rfl rfl rfl rfl fnamed Tryz.func7 joined
  inst wrapd
  (fun os started H enc _ => lifted os started H enc)
theorem cw : Rows.inverseTwiceRow.wfByText (OpenSpec.ofChange Rows.inverseTwiceSpec) = true:=by kernel_rfl
theorem cm : Tryz.prog.mainIs = some (Rows.inverseTwiceCard.stood.harness.1,Rows.inverseTwiceCard.stood.harness.2.toList):=by kernel_rfl
theorem cl : Rows.inverseTwiceCard.stood.looks = Tryz.prog.looks []:=by kernel_rfl
theorem cg : false = Rows.inverseTwiceRow.goesBy Tryz.prog:=by kernel_rfl
theorem cs : ([24].all fun u => !Tryz.prog.wantsStandIn u) = true:=by kernel_rfl
/-- The tied card. -/
theorem card_holds : Rows.InverseTwiceCardSaid :=
 Claim7.holds_tied_plain_at .later [] [.data,.handle,.sentinel,.sentinel,.sentinel,.sentinel,.sentinel,.sentinel,.sentinel,.sentinel,.sentinel,.sentinel,.sentinel,.sentinel,.pinned] true _ _
  over (fun _ h => by cases h) cw (fun _ h => by cases h) inverseTwice_row_tie rfl ⟨rfl,rfl⟩ cm rfl
  (fun f fn hf hfn => by
    obtain rfl : f = 7:=Option.some.inj (fnamed.symm.trans hf) |>.symm
    obtain rfl : fn = Tryz.f7:=(Option.some.inj (Tryz.func7.symm.trans hfn)).symm
    exact ⟨cl,fun j t ht => by
     rw [Tryz.params7] at ht
     have hm : t ∈ [24]:=by simpa using Array.mem_of_getElem? ht
     exact (show Tryz.prog.wantsStandIn t = false by simpa using List.all_eq_true.1 cs t hm)⟩)
  cg
end InverseTwiceP
#print axioms InverseTwiceP.card_holds
end Go.Proofs.YtjiadfblphdchaaGreatDoor
