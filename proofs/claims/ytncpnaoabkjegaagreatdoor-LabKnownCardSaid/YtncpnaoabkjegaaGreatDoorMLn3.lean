/-
  Texts that the proof leans on.
-/
import Derived.Test.YtncpnaoabkjegaaGreatDoorMLn2
import Derived.Deep.RegionHeld3
import Derived.BigQuiet
import Derived.Deep.QuietTactic
import Derived.Laws.BytesArg
import Derived.Maps.OwnSet
import Derived.StringKeys
import Derived.Laws.Bits64b
import Derived.StillTail
import Derived.Deep.DeepCutAuto
namespace Go.Proofs.YtncpnaoabkjegaaGreatDoor
open Go.RowKit
set_option maxRecDepth 100000
set_option maxHeartbeats 8000000
theorem wrap64_nat (n:Nat) (h:n<1048576):wrap64 (n:Int)=n:=wrap64_id (by omega) (by omega)
theorem wrap64_nat1 (n:Nat) (h1:1≤n) (h:n<1048576):wrap64 ((n:Int)-1)=((n-1:Nat):Int):=by
 rw [wrap64_id (by omega) (by omega)]; omega
theorem bits_or_nat (a b:Nat) (ha:a<1024) (hb:b<1024):bits .or .i64 (a:Int) (b:Int)=((a ||| b:Nat):Int):=by
 have hx:a ||| b<2 ^ 10:=Nat.or_lt_two_pow (by omega) (by omega)
 have h1:(BitVec.ofInt 64 (a:Int)).toNat=a:=by
  rw [BitVec.ofInt_natCast,BitVec.toNat_ofNat]; exact Nat.mod_eq_of_lt (by omega)
 have h2:(BitVec.ofInt 64 (b:Int)).toNat=b:=by
  rw [BitVec.ofInt_natCast,BitVec.toNat_ofNat]; exact Nat.mod_eq_of_lt (by omega)
 show IntKind.i64.wrap ((BitVec.ofInt 64 (a:Int) ||| BitVec.ofInt 64 (b:Int)).toNat:Int)=_
 rw [BitVec.toNat_or,h1,h2]
 exact wrapK (by omega) (by omega)
theorem unlike_any (K R:Nat) (va:Option Addr) (vn vc:Nat) (xs:List Int) (W:Nat) (w:World) (h:IntsAt w (.slice va vn vc) xs) (hr:RuleOk K R xs) (hW:1≤W) (q:Nat) (hdiv:xs.length=q*(W*K)) :
 Calls Tryz.prog 45 #[.agg #[.int .i64 K,.int .i64 R,.slice va vn vc],.int .i64 W] w (Ret1 (fun x _=>x=.bool (unlikeP K xs W)) w):=by
 have hb0:=belowAlloc w (.cells #[.int .i64 K,.int .i64 R,.slice va vn vc] 24)
 have h0:=Hd h
 have hl:=h.len
 have hk1:=hr.k1
 have hk4:=hr.k4
 have hlen:=hr.len_le
 clear h
 replace hdiv:=Hd hdiv
 replace hr:=Hd hr
 go_enter Tryz.func45,Tryz.ntmps45
 go_wp2_with fail
 go_loopw [11] (fun i wr=>(∃ j:Nat,j≤xs.length∧i=.int .i64 j∧∀ t,t<j→t/W%K=0→fullP K xs W t=true)∧∃ n,wr=(w.alloc (.cells #[.int .i64 K,.int .i64 R,.slice va vn vc] 24)).drewN n) (fun i _=>xs.length-(intOf i).toNat)
 case atStart=>exact ⟨⟨0,by omega,rfl,by intro t ht; omega⟩,0,rfl⟩
 case round =>
  obtain ⟨⟨j,hj,rfl,hp⟩,n,rfl⟩:=hrel
  replace hp:=Hd hp
  by_cases hlt:j<xs.length
  ·by_cases hm:j/W%K=0
   ·have hqd:0≤(j:Int)/(W:Int):=Int.ediv_nonneg (by omega) (by omega)
    have hqu:(j:Int)/(W:Int)≤16384:=by
     have:j/W≤j:=Nat.div_le_self _ _
     have:j/W≤16384:=by omega
     exact_mod_cast this
    have hq:((j:Int)/(W:Int)%(K:Int) != 0)=false:=by
     rw [bne_eq_false_iff_eq]
     exact_mod_cast hm
    replace hm:=Hd hm
    go_wp2
    go_quiet (fail)
    go_wp2
    go_loop [6,23] (fun n i=>∃ s:Nat,s≤K∧i=.int .i64 s∧n=.int .i64 (seenP xs W j s)) (fun _ i=>K-(intOf i).toNat)
    case atStart=>exact ⟨0,by omega,rfl,rfl⟩
    case round =>
     obtain ⟨s,hs,rfl,rfl⟩:=hrel
     by_cases hsl:s<K
     ·have hx:=hr.out.syms.getD (by omega) (j+s*W)
      have hin:j+s*W<xs.length:=group_lt hW hdiv.out hlt hm.out hsl
      have h1:=h0.out.below hb0
      have i1:∀ w',(Instr.indexAt 22 (.slice va vn vc) (.int .i64 ((j:Int)+(s:Int)*(W:Int)))).run Tryz.prog w'=.ok (.pointer (some (valAt (.slice va vn vc) (j+s*W)))) w':=by
       intro w'
       have:=h1.idx (j+s*W) hin w'
       rwa [Int.natCast_add,Int.natCast_mul] at this
      have c1:=h1.cellD (j+s*W) hin
      have hsw0:0≤(s:Int)*(W:Int):=Int.mul_nonneg (by omega) (by omega)
      have hsw1:(s:Int)*(W:Int)≤16384:=by
       have:s*W≤16384:=by omega
       exact_mod_cast this
      have hst:Hid (seenP xs W j (s+1)=seenP xs W j s ||| 2 ^ (xs.getD (j+s*W) 0).toNat):=rfl
      have hsl2:=seenP_lt hk1 hr.out.syms W j s
      have h16:=two_pow_K hk4
      generalize xs.getD (j+s*W) 0=x at hx c1 hst
      have hbx:2 ^ x.toNat<1024:=Nat.lt_of_lt_of_le (Nat.pow_lt_pow_right (by decide) (show x.toNat<4 by omega)) (by decide)
      have hbit:Hid (bits BinOp.or IntKind.i64 ((seenP xs W j s:Nat):Int) (wrap64 (2 ^ x.toNat))=((seenP xs W j (s+1):Nat):Int)):=by
       show _=_
       have e:(2:Int) ^ x.toNat=((2 ^ x.toNat:Nat):Int):=by simp
       rw [e,wrap64_nat _ (by omega),bits_or_nat _ _ (by omega) hbx,hst.out]
      go_wp2
      go_round
      case rel=>exact ⟨s+1,by omega,by go_num,by rw [hbit.out]⟩
      case measure=>simp [intOf]; omega
     ·obtain rfl:K=s:=by omega
      have h16:=two_pow_K hk4
      have h1K:1≤2 ^ K:=Nat.two_pow_pos K
      have e:(2:Int) ^ K=((2 ^ K:Nat):Int):=by simp
      have e2:wrap64 (wrap64 ((2:Int) ^ K)-1)=((2 ^ K-1:Nat):Int):=by
       rw [e,wrap64_nat _ (by omega),wrap64_nat1 _ h1K (by omega)]
      have hT:Hid (((seenP xs W j K:Nat):Int) != wrap64 (wrap64 ((2:Int) ^ K)-1))=Hid (fullP K xs W j=false):=by
       show ((((seenP xs W j K:Nat):Int) != wrap64 (wrap64 ((2:Int) ^ K)-1))=true)=(fullP K xs W j=false)
       rw [e2]
       apply propext
       rw [bne_iff_ne,fullP,beq_eq_false_iff_ne]
       omega
      cases hf:fullP K xs W j
      ·have ht:(((seenP xs W j K:Nat):Int) != wrap64 (wrap64 ((2:Int) ^ K)-1))=true:=by
        have:=Eq.mpr hT hf; exact this
       have hu:=Hd (unlikeP_false (K:=K) j hlt hm.out hf)
       clear hT e e2 hf
       go_wp2
       go_ret
       exact ⟨_,rfl,below_drewN hb0 _,(by rw [hu.out]; rfl)⟩
      ·have ht:(((seenP xs W j K:Nat):Int) != wrap64 (wrap64 ((2:Int) ^ K)-1))=false:=by
        rw [Bool.eq_false_iff]
        intro c
        have:=Eq.mp hT c
        rw [hf] at this
        cases this
       replace hf:=Hd hf
       clear hT e e2
       go_wp2
       go_roundw
       case rel =>
        refine ⟨⟨j+1,by omega,by go_num,?_⟩,_,rfl⟩
        intro t ht' htm
        by_cases e:t=j
        ·subst e; exact hf.out
        ·exact hp.out t (by omega) htm
       case measure=>simp [intOf]; omega
   ·have hqd:0≤(j:Int)/(W:Int):=Int.ediv_nonneg (by omega) (by omega)
    have hqu:(j:Int)/(W:Int)≤16384:=by
     have:j/W≤j:=Nat.div_le_self _ _
     have:j/W≤16384:=by omega
     exact_mod_cast this
    have hq:((j:Int)/(W:Int)%(K:Int) != 0)=true:=by
     rw [bne_iff_ne]
     intro e
     apply hm
     exact_mod_cast e
    replace hm:=Hd hm
    go_wp2
    go_quiet (fail)
    go_wp2
    go_roundw
    case rel =>
     refine ⟨⟨j+1,by omega,by go_num,?_⟩,_,rfl⟩
     intro t ht htm
     by_cases e:t=j
     ·subst e; exact absurd htm hm.out
     ·exact hp.out t (by omega) htm
    case measure=>simp [intOf]; omega
  ·have hu:unlikeP K xs W=true:=unlikeP_true fun i hi hm=>hp.out i (by omega) hm
   replace hu:=Hd hu
   go_wp2
   go_ret
   exact ⟨_,rfl,below_drewN hb0 n,(by rw [hu.out]; rfl)⟩
theorem unlikeI (K R:Nat) (va:Option Addr) (vn vc:Nat) (xs:List Int) (Wi:Int) (w:World) (hW:1≤Wi) (hdiv:∃ q,xs.length=q*(Wi.toNat*K)) (h:IntsAt w (.slice va vn vc) xs) (hr:RuleOk K R xs) :
 Calls Tryz.prog 45 #[.agg #[.int .i64 K,.int .i64 R,.slice va vn vc],.int .i64 Wi] w (Ret1 (fun x _=>x=.bool (unlikeP K xs Wi.toNat)) w):=by
 obtain ⟨W,rfl⟩:=Int.eq_ofNat_of_zero_le (show 0≤Wi by omega)
 obtain ⟨q,hq⟩:=hdiv
 rw [Int.toNat_natCast] at hq ⊢
 exact unlike_any K R va vn vc xs W w h hr (by omega) q hq
theorem sides_ok (K R:Nat) (va:Option Addr) (vn vc:Nat) (xs:List Int) (w:World) (h:IntsAt w (.slice va vn vc) xs) (hr:RuleOk K R xs) :
 Calls Tryz.prog 12 #[.agg #[.int .i64 K,.int .i64 R,.slice va vn vc]] w (Ret3 (fun x y z _=>x=.bool (unlikeP K xs (xs.length/K))∧y=.bool (unlikeP K xs 1)∧z=.nilIface) w):=by
 have hb0:=belowAlloc w (.cells #[.int .i64 K,.int .i64 R,.slice va vn vc] 24)
 have hl:=h.len
 have hk1:=hr.k1
 have hlen:=hr.len_le
 have hhf:=hr.half
 have hp1:=pw_pos (2*R) hk1
 replace h:=Hd (h.below hb0)
 replace hr:=Hd hr
 replace hhf:=Hd hhf
 have hq0:0≤(xs.length:Int)/(K:Int):=Int.ediv_nonneg (by omega) (by omega)
 have hq1:(xs.length:Int)/(K:Int)≤16384:=by
  have:xs.length/K≤16384:=Nat.le_trans (Nat.div_le_self _ _) hlen
  exact_mod_cast this
 have hqw:IntKind.i64.wrap ((xs.length:Int)/(K:Int))=(xs.length:Int)/(K:Int):=wrapK (by omega) (by omega)
 have hdc:Hid ((xs.length:Int)/(K:Int)=((xs.length/K:Nat):Int)):=by show _=_; simp
 go_enter Tryz.func12,Tryz.ntmps12
 go_wp2_with fail
 refine (check_ok K R _ xs _ h.out hr.out).mono ?_
 rintro e w1 ⟨x,rfl,hb,rfl⟩
 obtain ⟨z0,z1,z2,f0,f1,f2⟩:=cells3 hb
 have hx:=h.out.below hb
 have hsz:w.heap.size<w1.heap.size:=World.block_lt_of_cell? _ _ z0
 replace hx:=Hd hx
 have hK0:((K:Int)==0)=false:=by rw [beq_eq_false_iff_ne]; omega
 have hK1:¬ (K:Int)=0:=by omega
 have hK2:(0:Int)<K:=by omega
 have hK3:¬ K=0:=by omega
 have hdc2:Hid (((xs.length:Int)/(K:Int)).toNat=xs.length/K):=by show _=_; rw [hdc.out,Int.toNat_natCast]
 have hW1:1≤(xs.length:Int)/(K:Int):=by
  rw [hdc.out,hhf.out.1]; omega
 have hd1:Hid (∃ q,xs.length=q*(((xs.length:Int)/(K:Int)).toNat*K)):=⟨1,by rw [hdc.out,Int.toNat_natCast,hhf.out.1,Nat.one_mul]; exact hhf.out.2⟩
 have hd2:Hid (∃ q,xs.length=q*((1:Int).toNat*K)):=⟨pw K (2*R),by simpa using hhf.out.2⟩
 go_wp2
 go_region_held3 (fun w'=>w'.cell? ⟨w.heap.size,0,none⟩=some (.int .i64 K)∧w'.cell? ⟨w.heap.size,1,none⟩=some (.int .i64 R)∧w'.cell? ⟨w.heap.size,2,none⟩=some (.slice va vn vc)) (go_keep)
  (first | (go_at_call 45; refine (unlikeI K R va vn vc xs _ _ (by first | exact hW1 | decide) (by first | exact hd1.out | exact hd2.out) (by first | exact hx.out.drew | exact hx.out.drew.below hb') hr.out).mono ?_; rintro e w2 ⟨x2,rfl,hb',rfl⟩; have S:=keep3 hb' (by first | exact S | exact ⟨z0,z1,z2⟩); have y0:=S.1; have y1:=S.2.1; have y2:=S.2.2; have bb:Below w1.heap.size w1 w2:=(by first | exact bb.trans (hb'.mono bb.size) | exact ((Below.refl _ _).drew).trans hb')))
 go_wp2
 go_ret3
 exact ⟨_,_,_,rfl,Below.step hb0 (Below.step hb bb),(by rw [← hdc2.out]; rfl),rfl,rfl⟩
end Go.Proofs.YtncpnaoabkjegaaGreatDoor
namespace Go.Proofs.YtncpnaoabkjegaaGreatDoor
open Go.RowKit
set_option maxRecDepth 100000
theorem run_makeI (C:Int) (n:Nat) (w:World) (hC:C=n) (hn:n≤17592186044416) :
 ∃ v w',(Instr.makeSlice 22 (.int .i64 C) (.int .i64 C)).run Tryz.prog w=.ok v w'∧OwnI w.heap.size w' v (List.replicate n 0)∧Below w.heap.size w w':=by
 subst hC
 obtain ⟨i,hi,hz0,hz1,hz2⟩:=info_parts iInt
 obtain ⟨w',hrun,r1,r2⟩:=run_make_full (P:=Tryz.prog) w w.heap.size 22 3 i (.int .i64 0) 1 uInts hi hz0 hz1 .i64 .i64 n (by rw [hz2]; omega) (by unfold maxLen; omega) (Nat.le_refl _)
 refine ⟨_,w',hrun,?_,(Below.refl _ _).grown r2 (Nat.le_refl _) (by intro k hk; cases hk)⟩
 have e:(madeCells (Value.cells (.int .i64 0)) (n*1)).toList=(List.replicate n (0:Int)).map (Value.int .i64):=by
  rw [show Value.cells (.int .i64 0)=#[.int .i64 0] from rfl,toList_madeCells_one]; simp
 rw [e] at r1
 simpa [OwnI] using r1
theorem OwnI.post {B:Nat} {w:World} {v:Value} {xs:List Int} (h:OwnI B w v xs) (off:Nat) (ho:off≤xs.length) :
 ∃ dp dLen dCap,(∀ w',(Instr.slice 22 v (some (.int .i64 off)) none none).run Tryz.prog w'=.ok (.slice dp dLen dCap) w')∧dLen=xs.length-off∧(0<xs.length-off→dp=some (valAt v off)):=by
 rcases h.2 with ⟨rfl,hn⟩ | ⟨g,cap,cur,rfl,hB,hg,hn,hm,hs,ht⟩
 ·have hr:∀ w',(Instr.slice 22 (.slice none 0 0) (some (.int .i64 off)) none none).run Tryz.prog w'=.ok (sliced none off 0 0 1) w':=by
   intro w'
   rw [run_slice_l w' 22 none 0 0 uIntsE .i64 off (by omega) (by omega),eInts,sInt]
   rfl
  exact ⟨_,_,_,hr,by omega,by intro hh; omega⟩
 ·have hr:∀ w',(Instr.slice 22 (.slice (some ⟨g,0,none⟩) xs.length cap) (some (.int .i64 off)) none none).run Tryz.prog w'=.ok (sliced (some ⟨g,0,none⟩) off xs.length cap 1) w':=by
   intro w'
   rw [run_slice_l w' 22 (some ⟨g,0,none⟩) xs.length cap uIntsE .i64 off (by omega) (by omega),eInts,sInt]
   rfl
  refine ⟨_,_,_,hr,rfl,fun hh=>?_⟩
  rw [if_neg (by omega),valAt_row]
  simp [Addr.add]
  intro e; exact e.symm
end Go.Proofs.YtncpnaoabkjegaaGreatDoor
namespace Go.Proofs.YtncpnaoabkjegaaGreatDoor
def compl (K N:Nat) (T:List Int):Nat→List Int→List (List Int)
 | _,[]=>[[]]
 | node,y::ws=>(List.range K).flatMap fun s=>if T.getD (node*K+s) 0=y then (compl K N T ((node*K+s)%N) ws).map (fun c=>(s:Int)::c) else []
def complU (K N:Nat) (T:List Int) (node:Nat) (y:Int) (ws:List Int) (t:Nat):List (List Int) :=
 (List.range t).flatMap fun s=>if T.getD (node*K+s) 0=y then (compl K N T ((node*K+s)%N) ws).map (fun c=>(s:Int)::c) else []
theorem compl_cons (K N:Nat) (T:List Int) (node:Nat) (y:Int) (ws:List Int):compl K N T node (y::ws)=complU K N T node y ws K:=rfl
theorem complU_succ (K N:Nat) (T:List Int) (node:Nat) (y:Int) (ws:List Int) (t:Nat) :
 complU K N T node y ws (t+1)=complU K N T node y ws t++if T.getD (node*K+t) 0=y then (compl K N T ((node*K+t)%N) ws).map (fun c=>(t:Int)::c) else []:=by
 simp [complU,List.range_succ]
def allBefore (K R:Nat) (T ws:List Int) (n:Nat):List (List Int):=(List.range n).flatMap fun node=>(compl K (pw K (2*R)) T node ws).map fun c=>digs K (2*R) node++c
theorem allBefore_succ (K R:Nat) (T ws:List Int) (n:Nat):allBefore K R T ws (n+1)=allBefore K R T ws n++(compl K (pw K (2*R)) T n ws).map fun c=>digs K (2*R) n++c:=by
 simp [allBefore,List.range_succ]
def begins (n:Nat) (ends l:List Int):Bool:=decide (n≤l.length)&&decide (l.take n=ends)
theorem numW_rep_max {K:Nat} (hK:1≤K) (j:Nat):numW K (List.replicate j ((K:Int)-1))+1=pw K j:=by
 induction j with
 | zero=>rfl
 | succ j ih =>
  rw [List.replicate_succ',numW_snoc,pw_succ,← ih]
  have:((K:Int)-1).toNat=K-1:=by omega
  rw [this,Nat.add_mul]
  omega
theorem numW_rep_zero (K j:Nat):numW K (List.replicate j 0)=0:=by
 induction j with
 | zero=>rfl
 | succ j ih=>rw [List.replicate_succ',numW_snoc,ih]; simp
theorem next_word {K n x:Nat} (hK:1≤K) (hx:x<pw K n) (u:List Int) (a:Int) (j:Nat) (h:digs K n x=u++[a]++List.replicate j ((K:Int)-1)) (ha:a<(K:Int)-1) :
 digs K n (x+1)=u++[a+1]++List.replicate j 0:=by
 have hs:=digs_syms hK n x
 have hl:=congrArg List.length h
 have hn:=congrArg (numW K) h
 rw [digs_length] at hl
 rw [numW_digs hK _ _ hx,numW_append,List.length_replicate,numW_snoc] at hn
 rw [h] at hs
 have hu:Syms K u:=fun y hy=>hs y (by simp [hy])
 have ha0:=hs a (by simp)
 have hw:Syms K (u++[a+1]++List.replicate j 0):=by
  intro y hy
  rcases List.mem_append.1 hy with hy | hy
  ·exact syms_snoc (by omega) (by omega) hu y hy
  ·have:=List.eq_of_mem_replicate hy; omega
 have e:=digs_numW hK _ hw
 have hlen:(u++[a+1]++List.replicate j 0).length=n:=by simp at hl ⊢; omega
 rw [hlen] at e
 rw [← e]
 congr 1
 rw [numW_append,List.length_replicate,numW_snoc,numW_rep_zero,show (a+1).toNat=a.toNat+1 by omega,← Nat.add_assoc,Nat.add_mul (numW K u*K+a.toNat)]
 have:=numW_rep_max hK j
 omega
theorem digs_last {K n x:Nat} (hK:1≤K) (hx:x<pw K n) (h:digs K n x=List.replicate n ((K:Int)-1)):x+1=pw K n:=by
 have hn:=congrArg (numW K) h
 rw [numW_digs hK _ _ hx] at hn
 rw [hn,numW_rep_max hK]
theorem digs_zero (K n:Nat):digs K n 0=List.replicate n 0:=by
 induction n with
 | zero=>rfl
 | succ n ih=>rw [digs,Nat.zero_div,ih,List.replicate_succ']; simp
open Go.RowKit
set_option maxRecDepth 100000
set_option maxHeartbeats 8000000
theorem word_check1 (x k:Int) (b:Addr) (w:World) (hb:w.cell? b=some (.int .i64 k)) :
 Calls Tryz.prog 236 #[.int .i64 x,.pointer (some b)] w fun e w'=>e=.returned (.bool (odd1 k x))∧w=w':=by
 by_cases h:x<0
 ·have e:odd1 k x=true:=by simp [odd1,h]
  rw [e]
  go_enter Tryz.func236,Tryz.ntmps236
  go_wp2
  go_ret
  exact ⟨rfl,rfl⟩
 ·have e:odd1 k x=decide (k≤x):=by simp [odd1,h]
  rw [e]
  go_enter Tryz.func236,Tryz.ntmps236
  go_wp2
  go_ret
  exact ⟨ret_bool (by simp),rfl⟩
theorem eg_word_check1 (args:Array Value) (w:World):(callFunc 236 args).run Tryz.prog w=.ok (.enter 236 args) w:=by kernel_rfl
theorem word_alphabet (K:Nat) (w:World) (h1:1≤K) (h4:K≤4) :
 Calls Tryz.prog 235 #[.int .i64 K] w fun e w'=>e=.returned (.bool true)∧w=w':=by
 go_enter Tryz.func235,Tryz.ntmps235
 go_wp2
 go_ret
 exact ⟨ret_bool (by simp; omega),rfl⟩
theorem word_check (K:Nat) (v:Value) (xs:List Int) (w:World) (h:IntsAt w v xs) (h1:1≤K) (h4:K≤4) (hs:Syms K xs) (hl:xs.length≤4096) :
 Calls Tryz.prog 206 #[.int .i64 K,v] w (Ret1 (fun x _=>x=.nilIface) w):=by
 have hb0:=belowAlloc w (.cells #[.int .i64 K] 3)
 have l1:=h.len
 obtain ⟨a1,n1,c1,rfl⟩:=h.shape
 replace h:=Hd (h.below hb0)
 have hodd:=Hd hs.odd
 replace hs:=Hd hs
 go_enter Tryz.func206,Tryz.ntmps206
 go_wp2_with fail
 refine (word_alphabet K _ h1 h4).mono ?_
 rintro e w' ⟨rfl,rfl⟩
 go_wp2_with fail
 refine (indexFunc_any _ _ 236 xs (odd1 K) _ h.out eg_word_check1 (fun x _=>word_check1 x K _ _ (by simp))).mono ?_
 rintro e w' ⟨rfl,rfl⟩
 rw [hodd.out]
 go_wp2
 go_ret
 exact ⟨_,rfl,hb0,rfl⟩
theorem set_here (u:List Int) (a y:Int) (r:List Int):(u++[a]++r).set u.length y=u++[y]++r:=by
 rw [List.append_assoc,List.set_append_right _ _ (by omega)]; simp
theorem word_next (K:Nat) (v:Value) (D:List Int) (w:World) (h:IntsAt w v D) (h1:1≤K) (h4:K≤4) (hs:Syms K D) (hl:D.length≤4000) :
 Calls Tryz.prog 163 #[.int .i64 K,v] w (Ret2 (fun o y w'=>y=.nilIface∧∃ zs,OwnI w.heap.size w' o zs ∧
  ((∃ u a j,D=u++[a]++List.replicate j ((K:Int)-1)∧a<(K:Int)-1∧zs=u++[a+1]++List.replicate j 0)∨D=List.replicate D.length ((K:Int)-1))) w):=by
 have l1:=h.len
 have lm:=h.len_le
 replace h:=Hd h
 replace hs:=Hd hs
 go_enter Tryz.func163,Tryz.ntmps163
 go_wp2_with fail
 refine (word_check K v D w h.out h1 h4 hs.out (by omega)).mono ?_
 rintro e w1 ⟨_,rfl,b1,rfl⟩
 go_wp2_with fail
 refine (clone_any v D _ (h.out.below b1) (by omega)).mono ?_
 rintro e w2 ⟨ov,rfl,b2,ho⟩
 have lo:=ho.at.len
 replace ho:=Hd ho
 have hb2:=Below.step b1 b2
 go_wp2
 go_loopw [8] (fun i wr=>∃ m:Nat,m≤D.length∧i=.int .i64 ((m:Int)-1)∧D.drop m=List.replicate (D.length-m) ((K:Int)-1)∧OwnI w1.heap.size wr ov (D.take m++List.replicate (D.length-m) 0)∧Below w1.heap.size w1 wr) (fun i _=>(intOf i+1).toNat)
 case atStart=>exact ⟨D.length,by omega,rfl,by simp,by simpa using ho.out,b2⟩
 case round =>
  obtain ⟨m,hm,rfl,hd,hO,hbO⟩:=hrel
  obtain ⟨wo,rfl⟩:∃ wo:World,wo=wr:=⟨_,rfl⟩
  cases m with
  | zero =>
   rw [show ((0:Nat):Int)-1=-1 from rfl]
   rw [List.drop_zero,Nat.sub_zero] at hd
   replace hd:=Hd hd
   replace hO:=Hd hO
   obtain ⟨v3,w3,hmk,ho3,b3⟩:=run_makeI ((D.length:Int)+1) (D.length+1) wo (by omega) (by omega)
   have hne:((D.length:Int)==4096)=false:=by rw [beq_eq_false_iff_ne]; omega
   go_wp2
   go_ret2
   exact ⟨_,_,rfl,Below.step b1 (hbO.trans (b3.mono hbO.size)),rfl,_,ho3.mono (Nat.le_trans b1.size hbO.size),.inr hd.out⟩
  | succ m =>
   rw [show ((m+1:Nat):Int)-1=(m:Int) by omega]
   have hml:m<D.length:=by omega
   have htk:=take_snoc D m hml
   have hol:m<(D.take (m+1)++List.replicate (D.length-(m+1)) (0:Int)).length:=by simp; omega
   have i1:=hO.at.idx m hol
   have c1:=hO.at.cell m hol
   have f1:=hO.frz m hol
   have hx:=hs.out D[m] (by simp)
   have hge:(D.take (m+1)++List.replicate (D.length-(m+1)) (0:Int))[m]=D[m]:=by
    rw [List.getElem_append_left (by simp; omega),List.getElem_take]
   rw [hge] at c1
   have hul:(D.take m).length=m:=by simp; omega
   have hset:∀ y,(D.take (m+1)++List.replicate (D.length-(m+1)) (0:Int)).set m y=D.take m++[y]++List.replicate (D.length-(m+1)) 0:=by
    intro y
    have:=set_here (D.take m) D[m] y (List.replicate (D.length-(m+1)) 0)
    rw [htk,← this,hul]
   have hDu:D=D.take m++[D[m]]++List.replicate (D.length-(m+1)) ((K:Int)-1):=by
    rw [← hd,← htk,List.take_append_drop]
   have hd':D.drop m=D[m]::List.replicate (D.length-(m+1)) ((K:Int)-1):=by
    rw [← hd]; exact List.drop_eq_getElem_cons hml
   generalize D[m]=x at c1 hx hDu hd'
   have hO1:=hO.set m hol (x+1)
   have hb1:=hO.setBelow hbO m hol (.int .i64 (x+1))
   have hO0:=hO.set m hol 0
   have hb0:=hO.setBelow hbO m hol (.int .i64 0)
   rw [hset] at hO1 hO0
   replace hset:=Hd hset
   replace hO:=Hd hO
   replace hO1:=Hd hO1
   replace hO0:=Hd hO0
   replace hDu:=Hd hDu
   replace hd':=Hd hd'
   replace hd:=Hd hd
   clear htk hge hul
   by_cases hlt:x<(K:Int)-1
   ·go_wp2
    go_ret2
    exact ⟨_,_,rfl,Below.step b1 hb1,rfl,_,hO1.out.mono b1.size,.inl ⟨_,_,_,hDu.out,hlt,rfl⟩⟩
   ·obtain rfl:x=(K:Int)-1:=by omega
    go_wp2
    go_roundw
    case rel =>
     have e:D.length-m=D.length-(m+1)+1:=by omega
     refine ⟨m,by omega,by go_num,?_,?_,hb0⟩
     ·rw [hd'.out,e,List.replicate_succ]
     ·rw [e,List.replicate_succ]; simpa using hO0.out
    case measure=>simp [intOf]
theorem word_next_digs (K n x:Nat) (v:Value) (w:World) (h:IntsAt w v (digs K n x)) (h1:1≤K) (h4:K≤4) (hn:n≤4000) (hx:x<pw K n) :
 Calls Tryz.prog 163 #[.int .i64 K,v] w (Ret2 (fun o y w'=>y=.nilIface∧∃ zs,OwnI w.heap.size w' o zs∧(x+1<pw K n→zs=digs K n (x+1))) w):=by
 refine (word_next K v _ w h h1 h4 (digs_syms h1 n x) (by rw [digs_length]; exact hn)).mono ?_
 rintro e w' ⟨o,y,rfl,hb,rfl,zs,ho,hz⟩
 refine ⟨_,_,rfl,hb,rfl,zs,ho,fun hlt=>?_⟩
 rcases hz with ⟨u,a,j,e1,ha,rfl⟩ | e1
 ·exact (next_word h1 hx u a j e1 ha).symm
 ·rw [digs_length] at e1
  have:=digs_last h1 hx e1
  omega
end Go.Proofs.YtncpnaoabkjegaaGreatDoor
namespace Go.Proofs.YtncpnaoabkjegaaGreatDoor
theorem getD_syms {K:Int} {x:List Int} (h:Syms K x) {i:Nat} (hi:i<x.length):0≤x.getD i 0∧x.getD i 0<K:=by
 have e:x.getD i 0=x[i]:=by simp [List.getD,hi]
 rw [e]; exact h _ (List.getElem_mem hi)
open Go.RowKit
set_option maxRecDepth 100000
theorem oneBytes:OneCell 218 5 (.int .u8 0) 1:=⟨by kernel_rfl,by kernel_rfl,rfl,by decide,fun _=>by kernel_rfl⟩
theorem uByte:Tryz.prog.underlying 5=some (.int .u8):=by kernel_rfl
theorem uStr:Tryz.prog.underlying 9=some .string:=by kernel_rfl
theorem wpl_makeV0 {T E:TypeId} {z:Value} {b:Nat} (oc:OneCell T E z b) {w:World} {ops:Array Oper} {rest:List Oper} {o:Oper} {a:Act} {Q:Exit→Act→World→Prop}
 (hg:o.guard=none) (l c:Operand) (hop:o.op=Op.makeSlice T l c) (n:Nat) (hl:a.eval l=.int .i64 0) (hc:a.eval c=.int .i64 (n:Int)) (hC:n≤100000)
 (hK:∀ v w',OwnV E w.heap.size w' v []→Below w.heap.size w w'→wpList Tryz.prog ops Q rest (a.put o.dst v) w') :
 wpList Tryz.prog ops Q (o::rest) a w:=by
 obtain ⟨i,hi,hz0,hz1,hz2⟩:=info_parts oc.hi
 have hb:=oc.hb
 refine wpList_make_own w hg l c T hop w.heap.size E i z 1 oc.ht hi hz0 hz1 .i64 .i64 n n hl hc rfl (by
  rw [hz2]
  calc b*n≤32*100000:=Nat.mul_le_mul hb hC
   _≤_:=by decide) (by unfold maxLen; omega) (Nat.le_refl _) ?_
 intro w' hown hgrow
 exact hK _ _ hown ((Below.refl _ _).grown hgrow (Nat.le_refl _) (by intro k hk; cases hk))
theorem wpl_appV {T E:TypeId} {z:Value} {b:Nat} (oc:OneCell T E z b) {w:World} {ops:Array Oper} {rest:List Oper} {o:Oper} {a:Act} {Q:Exit→Act→World→Prop} (hgd:o.guard=none) (s x:Operand)
 (ho:o.op=.call { callee:=.builtin .append,args:=#[s,x],argTypes:=#[T,T] })
 (B:Nat) (v:Value) (xs:List Value) (y:Value) (hy:y.oneCell'=true) (hown:OwnV E B w v xs) (hs:a.eval s=v) (hx:a.eval x=.slice (some ⟨w.heap.size,0,none⟩) 1 1)
 (hlen:xs.length<4398046511104) (hB:B≤w.heap.size)
 (h:∀ v' w',OwnV E B w' v' (xs++[y])→Below B w w'→wpList Tryz.prog ops Q rest (a.put o.dst v') w') :
 wpList Tryz.prog ops Q (o::rest) a (w.alloc (.cells #[y] E)):=by
 refine wpList_plain hgd fun K hK=>?_
 obtain ⟨v',w',hr,h2,h3⟩:=run_app oc (w.alloc (.cells #[y] E)) B o.type v _ (hown.alloc _) ⟨w.heap.size,0,none⟩ 1 [y] (by simp) (cell_one_new _ _ _) (by simp [hy]) (by simp; omega) (by simp; omega)
 unfold Oper.wp execOp
 simp only [ho,resolve,invoke,builtin,Sem.run_bind,Sem.run_pure,Result.andThen_ok,List.map_toArray,List.map_cons,List.map_nil,hs,hx]
 rw [show ([y]:List Value).length=1 from rfl] at hr
 rw [hr]
 have hal:∀ row,w.grownBy (w.alloc (.cells #[y] E)) row:=fun row=>World.grownBy_alloc w _ row
 rcases h3 with ⟨_,hg⟩ | ⟨_,hg⟩
 ·exact hK _ _ (h v' w' h2 ((Below.refl _ _).grown ((hal v.ownBlock).trans hg) hB (fun k hk=>(hown.lt k hk).1)))
 ·exact hK _ _ (h v' w' h2 ((Below.refl _ _).grown ((hal none).trans hg) hB (by intro k hk; cases hk)))
end Go.Proofs.YtncpnaoabkjegaaGreatDoor
namespace Go.Proofs.YtncpnaoabkjegaaGreatDoor
def bitsN:List Bool→Nat
 | []=>0
 | b::l=>b.toNat+2*bitsN l
theorem bitsN_testBit:∀ (l:List Bool) (i:Nat),(bitsN l).testBit i=l.getD i false
 | [],i=>by simp [bitsN]
 | b::l,0=>by
  unfold bitsN
  rw [Nat.testBit_zero]
  cases b<;>simp
 | b::l,i+1=>by
  unfold bitsN
  rw [Nat.testBit_succ,show (b.toNat+2*bitsN l)/2=bitsN l by cases b<;>simp<;>omega,bitsN_testBit l i]
  simp
theorem bitsN_lt:∀ (l:List Bool),bitsN l<2 ^ l.length
 | []=>by simp [bitsN]
 | b::l=>by
  have:=bitsN_lt l
  unfold bitsN
  rw [List.length_cons,Nat.pow_succ]
  have:b.toNat≤1:=Bool.toNat_le b
  omega
theorem bitsN_zero (n:Nat):bitsN (List.replicate n false)=0:=by
 induction n with
 | zero=>rfl
 | succ n ih=>rw [List.replicate_succ]; simp [bitsN,ih]
def wordB (l:List Bool) (w:Nat):Nat:=bitsN ((l.drop (64*w)).take 64)
def wordsB (l:List Bool):List Nat:=(List.range ((l.length+63)/64)).map (wordB l)
theorem wordsB_len (l:List Bool):(wordsB l).length=(l.length+63)/64:=by simp [wordsB]
theorem wordsB_get {l:List Bool} {w:Nat} (h:w<(l.length+63)/64):(wordsB l).getD w 0=wordB l w:=by simp [wordsB,List.getD,h]
theorem wordB_lt (l:List Bool) (w:Nat):wordB l w<2 ^ 64:=by
 refine Nat.lt_of_lt_of_le (bitsN_lt _) (Nat.pow_le_pow_right (by decide) ?_)
 rw [List.length_take]; omega
theorem wordB_testBit {l:List Bool} {w j:Nat} (hj:j<64):(wordB l w).testBit j=l.getD (64*w+j) false:=by
 unfold wordB
 rw [bitsN_testBit,List.getD_eq_getElem?_getD,List.getD_eq_getElem?_getD,List.getElem?_take,if_pos hj,List.getElem?_drop]
theorem wordB_set {l:List Bool} {x:Nat} (h:x<l.length) (w:Nat):wordB (l.set x true) w=if w=x/64 then wordB l w ||| 2 ^ (x%64) else wordB l w:=by
 refine Nat.eq_of_testBit_eq fun j=>?_
 by_cases hj:j<64
 ·rw [wordB_testBit hj]
  split
  ·rename_i e
   rw [Nat.testBit_or,wordB_testBit hj,Nat.testBit_two_pow]
   by_cases e2:x=64*w+j
   ·have e3:x%64=j:=by omega
    rw [← e2]
    simp [List.getD,h,e3]
   ·have e3:¬ x%64=j:=by omega
    simp [List.getD,List.getElem?_set_ne e2,e3]
  ·rename_i e
   rw [wordB_testBit hj]
   have e2:x≠64*w+j:=by omega
   simp [List.getD,List.getElem?_set_ne e2]
 ·have big:∀ m,m<2 ^ 64→m.testBit j=false:=fun m hm=>Nat.testBit_lt_two_pow (Nat.lt_of_lt_of_le hm (Nat.pow_le_pow_right (by decide) (by omega)))
  rw [big _ (wordB_lt _ _)]
  split
  ·rw [Nat.testBit_or,big _ (wordB_lt _ _),Nat.testBit_two_pow]
   have:¬ x%64=j:=by omega
   simp [this]
  ·rw [big _ (wordB_lt _ _)]
theorem wordsB_set {l:List Bool} {x:Nat} (h:x<l.length):wordsB (l.set x true)=(wordsB l).set (x/64) (wordB l (x/64) ||| 2 ^ (x%64)):=by
 refine List.ext_getElem (by simp [wordsB_len]) fun i h1 h2=>?_
 rw [List.getElem_set]
 simp only [wordsB,List.getElem_map,List.getElem_range]
 rw [wordB_set h]
 by_cases e:i=x/64
 ·subst e; simp
 ·rw [if_neg e,if_neg (fun q=>e q.symm)]
theorem wordsB_zero (n:Nat):wordsB (List.replicate n false)=List.replicate ((n+63)/64) 0:=by
 unfold wordsB
 refine List.ext_getElem (by simp) fun i h1 h2=>?_
 simp only [List.getElem_map,List.getElem_range,List.getElem_replicate]
 unfold wordB
 rw [List.drop_replicate,List.take_replicate]
 exact bitsN_zero _
def bytesW (w:Nat):List Nat:=(List.range 8).map fun i=>w/256 ^ i%256
theorem bytesW_len (w:Nat):(bytesW w).length=8:=by simp [bytesW]
theorem bytesW_testBit {w i b:Nat} (hb:b<8):(w/256 ^ i%256).testBit b=w.testBit (8*i+b):=by
 rw [show (256:Nat)=2 ^ 8 from rfl,← Nat.pow_mul,Nat.testBit_mod_two_pow,Nat.testBit_div_two_pow]
 simp [hb,Nat.add_comm]
theorem bytesW_inj {w v:Nat} (hw:w<2 ^ 64) (hv:v<2 ^ 64) (h:bytesW w=bytesW v):w=v:=by
 refine Nat.eq_of_testBit_eq fun j=>?_
 by_cases hj:j<64
 ·have hi:j/8<8:=by omega
  have e:=congrArg (fun l:List Nat=>l.getD (j/8) 0) h
  simp only [bytesW,List.getD_eq_getElem?_getD,List.getElem?_map,List.getElem?_range hi,Option.map_some,Option.getD_some] at e
  have e2:=congrArg (fun m:Nat=>m.testBit (j%8)) e
  rw [bytesW_testBit (Nat.mod_lt _ (by decide)),bytesW_testBit (Nat.mod_lt _ (by decide)),Nat.div_add_mod] at e2
  exact e2
 ·have big:∀ m,m<2 ^ 64→m.testBit j=false:=fun m hm=>Nat.testBit_lt_two_pow (Nat.lt_of_lt_of_le hm (Nat.pow_le_pow_right (by decide) (by omega)))
  rw [big _ hw,big _ hv]
def keyB (ws:List Nat):List Nat:=ws.flatMap bytesW
theorem keyB_inj:∀ {ws vs:List Nat},(∀ w∈ws,w<2 ^ 64)→(∀ w∈vs,w<2 ^ 64)→ws.length=vs.length→keyB ws=keyB vs→ws=vs
 | [],[],_,_,_,_=>rfl
 | w::ws,v::vs,hw,hv,hl,h=>by
  unfold keyB at h
  rw [List.flatMap_cons,List.flatMap_cons] at h
  obtain ⟨h1,h2⟩:=List.append_inj h (by rw [bytesW_len,bytesW_len])
  rw [bytesW_inj (hw w (by simp)) (hv v (by simp)) h1,keyB_inj (fun x hx=>hw x (by simp [hx])) (fun x hx=>hv x (by simp [hx])) (by simpa using hl) h2]
theorem wordsB_lt (l:List Bool):∀ w∈wordsB l,w<2 ^ 64:=fun w hw=>by
 obtain ⟨i,_,rfl⟩:=List.mem_map.1 hw
 exact wordB_lt _ _
theorem wordsB_inj {l m:List Bool} (hl:l.length=m.length) (h:wordsB l=wordsB m):l=m:=by
 refine List.ext_getElem hl fun i h1 h2=>?_
 have hi:i/64<(l.length+63)/64:=by omega
 have e:=congrArg (fun q:List Nat=>(q.getD (i/64) 0).testBit (i%64)) h
 rw [wordsB_get hi,wordsB_get (by omega),wordB_testBit (Nat.mod_lt _ (by decide)),wordB_testBit (Nat.mod_lt _ (by decide)),Nat.div_add_mod] at e
 simpa [List.getD,h1,h2] using e
theorem key_inj {l m:List Bool} (hl:l.length=m.length) (h:keyB (wordsB l)=keyB (wordsB m)):l=m :=
 wordsB_inj hl (keyB_inj (wordsB_lt l) (wordsB_lt m) (by rw [wordsB_len,wordsB_len,hl]) h)
theorem bit_at (l:List Bool) (x:Nat):wordB l (x/64)/2 ^ (x%64) &&& 1=if l.getD x false=true then 1 else 0:=by
 have h:=wordB_testBit (l:=l) (w:=x/64) (j:=x%64) (Nat.mod_lt _ (by decide))
 rw [Nat.div_add_mod,Nat.testBit_eq_decide_div_mod_eq] at h
 rw [Nat.and_one_is_mod]
 cases hb:l.getD x false with
 | true =>
  rw [hb] at h
  rw [if_pos rfl]; exact of_decide_eq_true h
 | false =>
  rw [hb] at h
  have:=of_decide_eq_false h
  rw [if_neg (by decide)]; omega
theorem keyB_snoc (ws:List Nat) (w:Nat):keyB (ws++[w])=keyB ws++bytesW w:=by simp [keyB]
theorem bytesW_take (w i:Nat) (h:i<8):(bytesW w).take (i+1)=(bytesW w).take i++[w/256 ^ i%256]:=by
 rw [List.take_add_one]
 simp [bytesW,h]
theorem keyB_len (ws:List Nat):(keyB ws).length=8*ws.length:=by
 induction ws with
 | nil=>rfl
 | cons w ws ih=>unfold keyB at *; rw [List.flatMap_cons,List.length_append,bytesW_len,ih,List.length_cons]; omega
def memB (l:List Bool) (n:Nat):List Nat:=(List.range n).filter fun x=>l.getD x false
theorem memB_succ (l:List Bool) (n:Nat):memB l (n+1)=memB l n++if l.getD n false then [n] else []:=by
 unfold memB
 rw [List.range_succ,List.filter_append]
 congr 1
 by_cases h:l.getD n false=true
 ·rw [if_pos h,List.filter_cons,if_pos h]; rfl
 ·rw [if_neg h,List.filter_cons,if_neg h]; rfl
def setOf (n:Nat) (xs:List Nat):List Bool:=xs.foldl (fun l x=>l.set x true) (List.replicate n false)
theorem setOf_snoc (n:Nat) (xs:List Nat) (x:Nat):setOf n (xs++[x])=(setOf n xs).set x true:=by simp [setOf]
theorem setOf_len (n:Nat) (xs:List Nat):(setOf n xs).length=n:=by
 unfold setOf
 have key:∀ (xs:List Nat) (l:List Bool),(xs.foldl (fun l x=>l.set x true) l).length=l.length:=by
  intro xs
  induction xs with
  | nil=>intro l; rfl
  | cons x xs ih=>intro l; rw [List.foldl_cons,ih,List.length_set]
 rw [key,List.length_replicate]
theorem setOf_get {n:Nat} {xs:List Nat} {v:Nat} (hv:v<n):(setOf n xs).getD v false=decide (v∈xs):=by
 unfold setOf
 have key:∀ (xs:List Nat) (l:List Bool),l.length=n→(xs.foldl (fun l x=>l.set x true) l).getD v false=(l.getD v false||decide (v∈xs)):=by
  intro xs
  induction xs with
  | nil=>intro l _; simp
  | cons x xs ih =>
   intro l hl
   rw [List.foldl_cons,ih _ (by rw [List.length_set]; exact hl)]
   by_cases e:x=v
   ·subst e; simp [List.getD,hl,hv]
   ·have e2:¬ v=x:=fun q=>e q.symm
    simp [List.getD,List.getElem?_set_ne e,e2]
 rw [key _ _ (by simp)]
 simp [List.getD,hv]
theorem setOf_all (n:Nat):setOf n (List.range n)=List.replicate n true:=by
 refine List.ext_getElem (by rw [setOf_len,List.length_replicate]) fun i h1 h2=>?_
 rw [setOf_len] at h1
 have:=setOf_get (n:=n) (xs:=List.range n) h1
 rw [List.getD_eq_getElem?_getD,List.getElem?_eq_getElem (by rw [setOf_len]; exact h1),Option.getD_some] at this
 rw [this]; simp [h1]
def updM (M:Int→Option Int) (p x:Int):Int→Option Int:=fun q=>if q=p then some x else M q
def numM (p:Nat→Int):Nat→(Int→Option Int)×Nat
 | 0=>(fun _=>none,0)
 | k+1=>if ((numM p k).1 (p k)).isSome then numM p k else (updM (numM p k).1 (p k) ((numM p k).2:Int),(numM p k).2+1)
def numO (p:Nat→Int) (k:Nat):Int:=((numM p (k+1)).1 (p k)).getD 0
theorem numM_size (p:Nat→Int):∀ k,(numM p k).2≤k
 | 0=>Nat.le_refl _
 | k+1=>by
  have:=numM_size p k
  simp only [numM]; split<;>simp<;>omega
theorem numM_keep (p:Nat→Int) {q x:Int} (k:Nat) (h:(numM p k).1 q=some x):∀ d,(numM p (k+d)).1 q=some x
 | 0=>h
 | d+1=>by
  have ih:=numM_keep p k h d
  show (numM p (k+d+1)).1 q=some x
  simp only [numM]
  split
  ·exact ih
  ·next hn =>
   show updM _ _ _ q=some x
   unfold updM
   by_cases e:q=p (k+d)
   ·subst e; rw [ih] at hn; exact absurd rfl hn
   ·rw [if_neg e]; exact ih
theorem numM_own (p:Nat→Int) (k:Nat):(numM p (k+1)).1 (p k)=some (numO p k):=by
 unfold numO
 have:((numM p (k+1)).1 (p k)).isSome:=by
  simp only [numM]
  split
  ·next h=>exact h
  ·simp [updM]
 obtain ⟨x,hx⟩:=Option.isSome_iff_exists.1 this
 rw [hx]; rfl
theorem numM_below (p:Nat→Int):∀ k q x,(numM p k).1 q=some x→0≤x∧x<(numM p k).2
 | 0,q,x,h=>by cases h
 | k+1,q,x,h=>by
  have ih:=numM_below p k q x
  simp only [numM] at h ⊢
  split at h
  ·next hs=>rw [if_pos hs]; exact ih h
  ·next hs =>
   rw [if_neg hs]
   simp only [updM] at h ⊢
   by_cases e:q=p k
   ·rw [if_pos e] at h; injection h with h; omega
   ·rw [if_neg e] at h; have:=ih h; omega
theorem numM_inj (p:Nat→Int):∀ k q q' x,(numM p k).1 q=some x→(numM p k).1 q'=some x→q=q'
 | 0,q,q',x,h,_=>by cases h
 | k+1,q,q',x,h,h'=>by
  have ih:=numM_inj p k q q' x
  simp only [numM] at h h'
  split at h
  ·next hs=>rw [if_pos hs] at h'; exact ih h h'
  ·next hs =>
   rw [if_neg hs] at h'
   simp only [updM] at h h'
   by_cases e:q=p k<;>by_cases e':q'=p k
   ·rw [e,e']
   ·rw [if_pos e] at h; rw [if_neg e'] at h'
    have:=numM_below p k q' x h'
    injection h with h; omega
   ·rw [if_neg e] at h; rw [if_pos e'] at h'
    have:=numM_below p k q x h
    injection h' with h'; omega
   ·rw [if_neg e] at h; rw [if_neg e'] at h'; exact ih h h'
theorem numO_eq (p:Nat→Int) (i j:Nat):numO p i=numO p j↔p i=p j:=by
 have key:∀ i d,(numM p (i+1+d)).1 (p i)=some (numO p i):=fun i d=>numM_keep p (i+1) (numM_own p i) d
 have hi:=key i j
 have hj:=key j i
 rw [show j+1+i=i+1+j by omega] at hj
 constructor
 ·intro h; rw [h] at hi; exact numM_inj p _ _ _ _ hi hj
 ·intro h; rw [h] at hi; rw [hi] at hj; injection hj
def PartsOf (n:Nat) (adj:Nat→List Nat) (ps:List Int):Prop :=
 ∃ p:Nat→Int,(∀ x y,x<n→y<n→(p x=p y↔Goes adj x y∧Goes adj y x))∧ps=(List.range n).map (numO p)
theorem PartsOf.len {n:Nat} {adj:Nat→List Nat} {ps:List Int} (h:PartsOf n adj ps):ps.length=n:=by
 obtain ⟨p,_,rfl⟩:=h; simp
theorem PartsOf.eq {n:Nat} {adj:Nat→List Nat} {ps:List Int} (h:PartsOf n adj ps) {x y:Nat} (hx:x<n) (hy:y<n):ps.getD x 0=ps.getD y 0↔Goes adj x y∧Goes adj y x:=by
 obtain ⟨p,hp,rfl⟩:=h
 simp only [List.getD_eq_getElem?_getD,List.getElem?_map,List.getElem?_range hx,List.getElem?_range hy,Option.map_some,Option.getD_some]
 rw [numO_eq,hp x y hx hy]
open Go.RowKit Go.Maps Go.WideMaps
set_option maxRecDepth 100000
theorem uMapB:Tryz.prog.underlying 229=some (.map 9 3):=by kernel_rfl
theorem keyedB:Keyed Tryz.prog 9:=string_keyed uStr
theorem zeroB (w:World):(zeroValue 3).run Tryz.prog w=.ok (.int .i64 0) w:=by kernel_rfl
def heldB (v:Value):Option (DataW Value×List MemPlace):=some (.held v,[])
def numsK (ws:List Nat):List Int:=(keyB ws).map fun n:Nat=>(n:Int)
def txtK (ws:List Nat):ByteArray:=strOfNums (numsK ws)
def keyK (ws:List Nat):Lit:=.string (txtK ws).data.toList
theorem txtK_size (ws:List Nat):(txtK ws).size=8*ws.length:=by
 unfold txtK; rw [strOfNums_size]; unfold numsK; rw [List.length_map,keyB_len]
theorem keyK_of {ws:List Nat} (h:ws.length≤4096):keyOf Tryz.prog 9 (.string (txtK ws))=some (keyK ws):=keyOf_string_mk uStr (by rw [txtK_size]; unfold maxLen; omega)
theorem keyB_byte (ws:List Nat):∀ b∈keyB ws,b<256:=fun b hb=>by
 unfold keyB at hb
 obtain ⟨w,_,hb⟩:=List.mem_flatMap.1 hb
 unfold bytesW at hb
 obtain ⟨i,_,rfl⟩:=List.mem_map.1 hb
 exact Nat.mod_lt _ (by decide)
theorem keyK_inj {l m:List Bool} (hl:l.length=m.length) (h:keyK (wordsB l)=keyK (wordsB m)):l=m:=by
 have h2:(txtK (wordsB l)).data.toList=(txtK (wordsB m)).data.toList:=by injection h
 unfold txtK at h2
 rw [strOfNums_data,strOfNums_data] at h2
 unfold numsK at h2
 rw [List.map_map,List.map_map] at h2
 have key:∀ (a b:List Nat),(∀ x∈a,x<256)→(∀ x∈b,x<256)→a.map ((fun n:Int=>UInt8.ofNat n.toNat) ∘ fun n:Nat=>(n:Int))=b.map ((fun n:Int=>UInt8.ofNat n.toNat) ∘ fun n:Nat=>(n:Int))→a=b:=by
  intro a
  induction a with
  | nil =>
   intro b _ _ h
   cases b with
   | nil=>rfl
   | cons _ _=>simp at h
  | cons p a ih =>
   intro b ha hb h
   cases b with
   | nil=>simp at h
   | cons q b =>
    rw [List.map_cons,List.map_cons] at h
    injection h with h1 h2
    have e1:=ha p List.mem_cons_self
    have e2:=hb q List.mem_cons_self
    have:p=q:=by
     have h3:=congrArg UInt8.toNat h1
     simp only [Function.comp,UInt8.toNat_ofNat',Int.toNat_natCast] at h3
     omega
    rw [this,ih b (fun z hz=>ha z (List.mem_cons_of_mem _ hz)) (fun z hz=>hb z (List.mem_cons_of_mem _ hz)) h2]
 exact key_inj hl (key _ _ (keyB_byte _) (keyB_byte _) h2)
def BagMap (w:World) (b n:Nat) (sets:List (List Bool)):Prop :=
 ∃ D:DataW Value,w.ownsMap Tryz.prog 9 heldB b sets.length D∧(∀ y,y.length=n→(Maps.has D (keyK (wordsB y))=true↔y∈sets))∧∀ i,i<sets.length→D.atKey (keyK (wordsB (sets.getD i []))) (.held (.int .i64 0))=.held (.int .i64 (i:Nat))
theorem BagMap.made (w:World) (n:Nat):BagMap (w.alloc (.map #[] 0)) w.heap.size n [] :=
 ⟨_,World.ownsMap_made w Tryz.prog 9 _,fun y _=>⟨fun h=>(by cases h),fun h=>(by cases h)⟩,fun i hi=>absurd hi (Nat.not_lt_zero _)⟩
section
variable {w:World} {b n:Nat} {sets:List (List Bool)}
theorem BagMap.blk (h:BagMap w b n sets):∃ es c,w.heap[b]?=some (.map es c):=by
 obtain ⟨D,⟨es,c,hb,_⟩,_⟩:=h
 exact ⟨es,c,hb⟩
theorem BagMap.lt (h:BagMap w b n sets):b<w.heap.size:=by
 obtain ⟨D,h1,_⟩:=h
 exact h1.lt
theorem BagMap.below {w':World} (h:BagMap w b n sets) (hb:Below w.heap.size w w'):BagMap w' b n sets:=by
 obtain ⟨D,h1,h2⟩:=h
 refine ⟨D,?_,h2⟩
 have hlt:=h1.lt
 obtain ⟨es,clock,hb',F,hs,hD⟩:=h1
 exact ⟨es,clock,(hb.block b hlt).trans hb',F,hs,hD⟩
theorem BagMap.kept {w':World} {row:Option Nat} (h:BagMap w b n sets) (hg:w.grownBy w' row) (hne:some b≠row):BagMap w' b n sets:=by
 obtain ⟨D,h1,h2⟩:=h
 exact ⟨D,h1.kept hg hne,h2⟩
theorem BagMap.hit (h:BagMap w b n sets) {y:List Bool} (hm:y∈sets) (hl:y.length=n) (hn:n≤4096) :
 (Instr.lookup 229 (.map (some b)) (.string (txtK (wordsB y))) true).run Tryz.prog w=.ok (.tuple #[.int .i64 (sets.idxOf y:Nat),.bool true]) w:=by
 obtain ⟨D,h1,h2,h3⟩:=h
 have hk:=List.idxOf_lt_length_of_mem hm
 have e0:sets.getD (sets.idxOf y) []=y:=by
  rw [List.getD_eq_getElem?_getD,List.getElem?_eq_getElem hk,Option.getD_some]
  exact List.getElem_idxOf hk
 have h4:=h3 _ hk
 rw [e0] at h4
 obtain ⟨v,ps,hr,hv⟩:=h1.look_ok keyedB uMapB (zeroB w) (zd:=.held (.int .i64 0)) (zp:=[]) rfl (keyK_of (ws:=wordsB y) (by rw [wordsB_len]; omega))
 rw [h4] at hv
 unfold heldB at hv
 have e1:=Option.some.inj hv
 have e2:DataW.held v=DataW.held (Value.int .i64 (sets.idxOf y:Nat)):=congrArg Prod.fst e1
 have e:v=Value.int .i64 (sets.idxOf y:Nat):=by injection e2
 rw [hr,e,(h2 _ hl).2 hm]
theorem BagMap.miss (h:BagMap w b n sets) {y:List Bool} (hm:y∉sets) (hl:y.length=n) (hn:n≤4096) :
 ∃ v,(Instr.lookup 229 (.map (some b)) (.string (txtK (wordsB y))) true).run Tryz.prog w=.ok (.tuple #[v,.bool false]) w:=by
 obtain ⟨D,h1,h2,h3⟩:=h
 obtain ⟨v,ps,hr,hv⟩:=h1.look_ok keyedB uMapB (zeroB w) (zd:=.held (.int .i64 0)) (zp:=[]) rfl (keyK_of (ws:=wordsB y) (by rw [wordsB_len]; omega))
 have:Maps.has D (keyK (wordsB y))=false:=by
  cases hh:Maps.has D (keyK (wordsB y)) with
  | false=>rfl
  | true=>exact absurd ((h2 y hl).1 hh) hm
 exact ⟨v,by rw [hr,this]⟩
theorem BagMap.store (h:BagMap w b n sets) {y:List Bool} (hm:y∉sets) (hl:y.length=n) (hn:n≤4096) (hall:∀ x∈sets,x.length=n) (hj:sets.length<100000) :
 ∃ w',(Instr.mapUpdate 229 (.map (some b)) (.string (txtK (wordsB y))) (.int .i64 (sets.length:Nat))).run Tryz.prog w=.ok () w'∧BagMap w' b n (sets++[y])∧w.grownBy w' (some b):=by
 obtain ⟨D,h1,h2,h3⟩:=h
 have hI:=h1.isMap
 have hkey:=keyK_of (ws:=wordsB y) (by rw [wordsB_len]; omega)
 obtain ⟨w',hr,ho,hg⟩:=h1.update keyedB uMapB (by unfold maxLen; omega) hkey (val:=.int .i64 (sets.length:Nat)) (d:=.held (.int .i64 (sets.length:Nat))) (ps:=[]) rfl
 have hkl:WideAt.IsKeyLit (keyK (wordsB y)):=keyedB.key hkey
 refine ⟨w',hr,⟨_,by rw [List.length_append,List.length_singleton]; exact ho,fun z hz=>?_,fun i hi=>?_⟩,hg⟩
 ·by_cases e:z=y
  ·subst e
   exact ⟨fun _=>by simp,fun _=>Maps.has_put_same hI hkl _⟩
  ·have hne:keyK (wordsB z)≠keyK (wordsB y):=fun h=>e (keyK_inj (by rw [hz,hl]) h)
   rw [Maps.has_put_other hne,h2 z hz]
   simp [e]
 ·rw [List.length_append,List.length_singleton] at hi
  by_cases e:i=sets.length
  ·subst e
   have e2:(sets++[y]).getD sets.length []=y:=by simp [List.getD]
   rw [e2,Maps.atKey_put_same hI hkl]
  ·have hi2:i<sets.length:=by omega
   have e2:(sets++[y]).getD i []=sets.getD i []:=by simp [List.getD,List.getElem?_append_left hi2]
   have hmem:sets.getD i []∈sets:=by
    rw [List.getD_eq_getElem?_getD,List.getElem?_eq_getElem hi2,Option.getD_some]
    exact List.getElem_mem hi2
   have hne:keyK (wordsB (sets.getD i []))≠keyK (wordsB y):=fun h=>hm (keyK_inj (by rw [hall _ hmem,hl]) h▸hmem)
   rw [e2,Maps.atKey_put_other hne]
   exact h3 i hi2
end
theorem Rows.mapB {B:Nat} {w w':World} {f:Names} {b:Nat} {es:Array MapEntry} {c:Nat} (h:Rows B w f) (hb:w.heap[b]?=some (.map es c)) (hg:w.grownBy w' (some b)):Rows B w' f :=
 ⟨fun i r hi=>(by
   have ho:=h.1 i r hi
   refine World.ownsRow.kept ho hg ?_
   rcases ho.2 with ⟨e,_⟩ | ⟨g,cap,cur,e,_,hh,_⟩
   ·left; rw [e]; rfl
   ·right; rw [e]; intro q
    have:g=b:=by injection q
    subst this; rw [hh] at hb; cases hb),h.2⟩
end Go.Proofs.YtncpnaoabkjegaaGreatDoor
namespace Go.Proofs.YtncpnaoabkjegaaGreatDoor
open Go.RowKit
set_option maxRecDepth 100000
set_option maxHeartbeats 8000000
theorem oneWords:OneCell 233 272 (.int .u64 0) 8:=⟨by kernel_rfl,by kernel_rfl,rfl,by decide,fun _=>by kernel_rfl⟩
theorem take_snocN (l:List Nat) (i:Nat) (h:i<l.length):l.take (i+1)=l.take i++[l[i]]:=by
 rw [List.take_add_one]; simp [h]
def wordsV (ws:List Nat):List Value:=ws.map fun n:Nat=>Value.int .u64 (n:Int)
def byteN (ns:List Nat):List Value:=ns.map fun n:Nat=>Value.int .u8 (n:Int)
theorem wordsV_len (ws:List Nat):(wordsV ws).length=ws.length:=by simp [wordsV]
theorem byteN_snoc (ns:List Nat) (n:Nat):byteN (ns++[n])=byteN ns++[.int .u8 (n:Int)]:=by simp [byteN]
theorem conv_key (B:Nat) (w:World) (v:Value) (ws:List Nat) (h:OwnV 5 B w v (byteN (keyB ws))) (h1:1≤ws.length):(convert 218 9 v).run Tryz.prog w=.ok (.string (txtK ws)) w:=by
 have hl:(byteN (keyB ws)).length=(numsK ws).length:=by simp [byteN,numsK]
 have hp:(numsK ws).length=8*ws.length:=by unfold numsK; rw [List.length_map,keyB_len]
 rcases h.2 with ⟨rfl,hn⟩ | ⟨g,cap,cur,rfl,hb,hg,hn,hm,hs,ht⟩
 ·omega
 ·refine run_convert_bytes_arg (P:=Tryz.prog) w 218 5 oneBytes.ht uByte g 0 (byteN (keyB ws)).length cap (numsK ws) hl.symm (fun i hi=>?_) 9 uStr
  have:=h.at.cell i hi
  rw [valAt_row] at this
  rw [Nat.zero_add,this]
  have hi2:i<(keyB ws).length:=by rw [hl] at hi; unfold numsK at hi; rwa [List.length_map] at hi
  simp [byteN,numsK,List.getD,hi2]
theorem bag_key (v:Value) (ws:List Nat) (w:World) (h:ValsAt w v (wordsV ws)) (h1:1≤ws.length) (hl:ws.length≤64) (hw:∀ x∈ws,x<2 ^ 64) :
 Calls Tryz.prog 212 #[v] w (Ret1 (fun x _=>x=.string (txtK ws)) w):=by
 obtain ⟨va,vn,vc,rfl⟩:∃ a n c,v=.slice a n c:=(by obtain ⟨a,c,e,_⟩:=h; exact ⟨a,_,c,e⟩)
 have l1:=h.len oneWords
 rw [wordsV_len] at l1
 replace h:=Hd h
 replace hw:=Hd hw
 go_enter Tryz.func212,Tryz.ntmps212
 go_wp2_with (at_make; refine wpl_makeV0 oneBytes rfl _ _ rfl (8*ws.length) rfl (by go_num) (by omega) ?_)
 intro bv w2 ho2 b2
 replace ho2:=Hd ho2
 go_wp2_with fail
 go_loopw [3,12] (fun ov iv wr=>∃ (i:Nat) (ow:Value),ow=ov∧iv=.int .i64 i∧i≤ws.length∧OwnV 5 w.heap.size wr ow (byteN (keyB (ws.take i)))∧Below w.heap.size w wr) (fun _ iv _=>ws.length-(intOf iv).toNat)
 case atStart=>exact ⟨0,_,rfl,rfl,Nat.zero_le _,ho2.out,b2⟩
 case round =>
  obtain ⟨i,ow,rfl,rfl,hi,hO,hB⟩:=hrel
  obtain ⟨wo,rfl⟩:∃ wo:World,wo=wr:=⟨_,rfl⟩
  by_cases hil:i<ws.length
  ·have di:decide ((i:Int)<(ws.length:Int))=true:=decide_eq_true (by omega)
   have hv:=h.out.below hB
   have iX:=fun w'=>hv.idx oneWords i (by rw [wordsV_len]; exact hil) w'
   have cX:=hv.cell i (by rw [wordsV_len]; exact hil)
   have ex:(wordsV ws)[i]'(by rw [wordsV_len]; exact hil)=.int .u64 ((ws[i]:Nat):Int):=by simp [wordsV]
   rw [ex] at cX
   have hxb:=hw.out ws[i] (List.getElem_mem hil)
   have htk:keyB (ws.take (i+1))=keyB (ws.take i)++bytesW ws[i]:=by
    rw [take_snocN ws i hil,keyB_snoc]
   obtain ⟨x,hx⟩:∃ x,ws[i]=x:=⟨_,rfl⟩
   rw [hx] at cX hxb htk
   obtain ⟨xa,hxa⟩:∃ xa,valAt (.slice va vn vc) i=xa:=⟨_,rfl⟩
   rw [hxa] at iX cX
   have hlt:(keyB (ws.take i)).length≤512:=by rw [keyB_len,List.length_take]; omega
   obtain ⟨ns,hns⟩:∃ ns,keyB (ws.take i)=ns:=⟨_,rfl⟩
   rw [hns] at htk hO hlt
   replace hx:=Hd hx
   replace hxa:=Hd hxa
   replace hv:=Hd hv
   replace htk:=Hd htk
   replace hns:=Hd hns
   replace hxb:=Hd hxb
   replace hO:=Hd hO
   clear ex
   go_wp2
   go_loopw [3,5,16] (fun ov cv jv wr=>∃ (j c:Nat) (ow:Value),ow=ov∧cv=.int .u64 (c:Int)∧jv=.int .i64 j∧j≤8∧c=x/256 ^ j∧OwnV 5 w.heap.size wr ow (byteN (ns++(bytesW x).take j))∧Below w.heap.size w wr) (fun _ _ jv _=>8-(intOf jv).toNat)
   case atStart=>exact ⟨0,x,_,rfl,rfl,rfl,by omega,by simp,by simpa using hO.out,hB⟩
   case round =>
    obtain ⟨j,c,pw,rfl,rfl,rfl,hj,hc,hP,hBj⟩:=hrel
    obtain ⟨wj,rfl⟩:∃ wj:World,wj=wr:=⟨_,rfl⟩
    by_cases hjl:j<8
    ·have dj:decide ((j:Int)<8)=true:=decide_eq_true (by omega)
     have hBs:=hBj.size
     have hcb:c<2 ^ 64:=by rw [hc]; exact Nat.lt_of_le_of_lt (Nat.div_le_self _ _) hxb.out
     have hse:byteN (ns++(bytesW x).take (j+1))=byteN (ns++(bytesW x).take j)++[.int .u8 ((c%256:Nat):Int)]:=by
      rw [bytesW_take x j hjl,← List.append_assoc,byteN_snoc,hc]
     have hlm:(byteN (ns++(bytesW x).take j)).length<4398046511104:=by
      simp [byteN,bytesW_len]; omega
     have wr8:IntKind.u8.wrap (c:Int)=((c%256:Nat):Int):=by simp [IntKind.wrap,IntKind.signed,IntKind.bits]
     have hdv:(c:Int)/256=((c/256:Nat):Int):=by omega
     have hc2:c/256=x/256 ^ (j+1):=by rw [hc,Nat.div_div_eq_div_mul,Nat.pow_succ]
     obtain ⟨m,hm⟩:∃ m,c%256=m:=⟨_,rfl⟩
     rw [hm] at wr8 hse
     obtain ⟨d,hd⟩:∃ d,c/256=d:=⟨_,rfl⟩
     rw [hd] at hdv hc2
     replace hm:=Hd hm
     replace hd:=Hd hd
     replace hc:=Hd hc
     replace hc2:=Hd hc2
     replace hse:=Hd hse
     go_wp2_with (at_builtin; go_loud (refine wpl_appV oneBytes rfl _ _ rfl w.heap.size pw _ (.int .u8 (m:Int)) rfl hP rfl rfl hlm hBs ?_))
     intro v' w7 ho7 b7
     rw [← hse.out] at ho7
     replace ho7:=Hd ho7
     clear hP
     go_wp2
     go_roundw
     case measure=>simp [intOf]; omega
     case rel=>exact ⟨j+1,d,_,rfl,by simp,by go_num,by omega,hc2.out,ho7.out,hBj.trans b7⟩
    ·obtain rfl:j=8:=by omega
     have e8:(bytesW x).take 8=bytesW x:=List.take_of_length_le (by rw [bytesW_len]; exact Nat.le_refl _)
     rw [e8,← htk.out] at hP
     replace hP:=Hd hP
     have dj:decide (((8:Nat):Int)<8)=false:=by decide
     go_wp2
     go_roundw
     case measure=>simp [intOf]; omega
     case rel=>exact ⟨i+1,_,rfl,by go_num,by omega,hP.out,hBj⟩
  ·have di:decide ((i:Int)<(ws.length:Int))=false:=decide_eq_false (by omega)
   obtain rfl:i=ws.length:=by omega
   rw [List.take_length] at hO
   have hc:=conv_key w.heap.size wo ow ws hO h1
   obtain ⟨oa,on,oc,rfl⟩:=hO.shape
   replace hO:=Hd hO
   go_wp2
   go_ret
   exact ⟨_,rfl,hB,rfl⟩
def natI (xs:List Nat):List Int:=xs.map fun n:Nat=>(n:Int)
theorem natI_len (xs:List Nat):(natI xs).length=xs.length:=by simp [natI]
theorem natI_at {xs:List Nat} {i:Nat} (h:i<xs.length):(natI xs).getD i 0=((xs[i]:Nat):Int):=by simp [natI,List.getD,h]
theorem wordsV_set (ws:List Nat) (k x:Nat):(wordsV ws).set k (.int .u64 (x:Int))=wordsV (ws.set k x):=by simp [wordsV,List.map_set]
theorem wordsV_zero (n:Nat):wordsV (List.replicate n 0)=List.replicate n (.int .u64 0):=by simp [wordsV]
theorem or_bit {m j:Nat} (hm:m<2 ^ 64) (hj:j<64):bits BinOp.or IntKind.u64 (m:Int) (IntKind.u64.wrap (2 ^ j))=((m ||| 2 ^ j:Nat):Int):=by
 have hp:2 ^ j<2 ^ 64:=Nat.pow_lt_pow_right (by decide) hj
 have e:IntKind.u64.wrap (2 ^ j)=((2 ^ j:Nat):Int):=by
  have e1:((2:Int) ^ j)=((2 ^ j:Nat):Int):=by norm_cast
  rw [e1]
  simp only [IntKind.wrap,IntKind.signed,IntKind.bits]
  generalize 2 ^ j=a at hp
  simp; omega
 rw [e]
 exact bits_or_u64_nat m (2 ^ j) hm hp
theorem bag_bits (n g:Nat) (v:Value) (xs:List Nat) (w:World) (c0:w.cell? ⟨g,0,none⟩=some (.int .i64 n)) (h:IntsAt w v (natI xs)) (hx:∀ x∈xs,x<n) (hxl:xs.length≤100000) (h1:1≤n) (hn:n≤4096) :
 Calls Tryz.prog 175 #[.pointer (some ⟨g,0,none⟩),v] w (Ret2 (fun x y w'=>y=.nilIface∧OwnV 272 w.heap.size w' x (wordsV (wordsB (setOf n xs)))) w):=by
 have l1:=h.len
 rw [natI_len] at l1
 obtain ⟨va,vn,vc,rfl⟩:=h.shape
 have hg:=World.block_lt_of_cell? _ _ c0
 replace h:=Hd h
 replace hx:=Hd hx
 obtain ⟨q,hq⟩:∃ q,(n+63)/64=q:=⟨_,rfl⟩
 have eq0:((n:Int)+63)/64=(q:Int):=by omega
 have hq64:q≤64:=by omega
 replace hq:=Hd hq
 go_enter Tryz.func175,Tryz.ntmps175
 go_wp2_with (at_make; refine wpl_makeV oneWords rfl _ _ rfl (((n:Int)+63)/64) rfl rfl (by omega) (by omega) ?_)
 intro sv w1 ho1 g1
 have b1:Below w.heap.size w w1:=(Below.refl _ _).grown g1 (Nat.le_refl _) (by intro k hk; cases hk)
 rw [← wordsV_zero,← hq.out,← wordsB_zero] at ho1
 obtain ⟨sa,sn,sc,rfl⟩:=ho1.shape
 replace ho1:=Hd ho1
 go_wp2_with fail
 go_loopw [21] (fun iv wr=>∃ i:Nat,iv=.int .i64 i∧i≤xs.length∧OwnV 272 w.heap.size wr (.slice sa sn sc) (wordsV (wordsB (setOf n (xs.take i))))∧Below w.heap.size w wr) (fun iv _=>xs.length-(intOf iv).toNat)
 case atStart=>exact ⟨0,rfl,Nat.zero_le _,by simpa [setOf] using ho1.out,b1⟩
 case round =>
  obtain ⟨i,rfl,hi,hO,hB⟩:=hrel
  obtain ⟨wo,rfl⟩:∃ wo:World,wo=wr:=⟨_,rfl⟩
  have hgB:=hB.size
  have e0:wo.cell? ⟨g,0,none⟩=some (.int .i64 n):=by rw [hB.cell hg]; exact c0
  by_cases hil:i<xs.length
  ·have di:decide ((i:Int)<(xs.length:Int))=true:=decide_eq_true (by omega)
   have hv:=h.out.below hB
   have iX:=fun w'=>hv.idx i (by rw [natI_len]; exact hil) w'
   have cX:=hv.cellD i (by rw [natI_len]; exact hil)
   rw [natI_at hil] at cX
   have hxn:=hx.out xs[i] (List.getElem_mem hil)
   have htk:setOf n (xs.take (i+1))=(setOf n (xs.take i)).set xs[i] true:=by rw [take_snocN xs i hil,setOf_snoc]
   obtain ⟨x,hxx⟩:∃ x,xs[i]=x:=⟨_,rfl⟩
   rw [hxx] at cX hxn htk
   obtain ⟨xa,hxa⟩:∃ xa,valAt (.slice va vn vc) i=xa:=⟨_,rfl⟩
   rw [hxa] at iX cX
   obtain ⟨l,hl⟩:∃ l,setOf n (xs.take i)=l:=⟨_,rfl⟩
   have hll:l.length=n:=by rw [← hl,setOf_len]
   rw [hl] at htk hO
   have hxll:x<l.length:=by omega
   have hws:wordsV (wordsB (l.set x true))=(wordsV (wordsB l)).set (x/64) (.int .u64 ((wordB l (x/64) ||| 2 ^ (x%64):Nat):Int)):=by rw [wordsB_set hxll,wordsV_set]
   have hk:x/64<(wordsV (wordsB l)).length:=by rw [wordsV_len,wordsB_len]; omega
   have iS:∀ w',(Instr.indexAt 233 (.slice sa sn sc) (.int .i64 ((x:Int)/64))).run Tryz.prog w'=.ok (.pointer (some (valAt (.slice sa sn sc) (x/64)))) w':=by
    intro w'
    have:=hO.at.idx oneWords (x/64) hk w'
    rwa [show ((x/64:Nat):Int)=(x:Int)/64 by omega] at this
   have cS:=hO.at.cell (x/64) hk
   have eS:(wordsV (wordsB l))[x/64]=.int .u64 ((wordB l (x/64):Nat):Int):=by simp [wordsV,wordsB]
   rw [eS] at cS
   have fS:=hO.frz (x/64) hk
   have hO2:=hO.set (x/64) hk (.int .u64 ((wordB l (x/64) ||| 2 ^ (x%64):Nat):Int))
   rw [← hws,← htk] at hO2
   have hB2:=hB.setCell (hO.blkB (x/64) hk).2 (.int .u64 ((wordB l (x/64) ||| 2 ^ (x%64):Nat):Int))
   have dl:decide ((x:Int)<0)=false:=decide_eq_false (by omega)
   have dh:decide ((x:Int)≥(n:Int))=false:=decide_eq_false (by omega)
   have m0:(0:Int)≤(x:Int)%64:=by omega
   have m1:(x:Int)%64≤64:=by omega
   have hwl:=wordB_lt l (x/64)
   obtain ⟨m,hm⟩:∃ m,wordB l (x/64)=m:=⟨_,rfl⟩
   rw [hm] at cS hO2 hB2 hwl
   obtain ⟨aS,haS⟩:∃ aS,valAt (.slice sa sn sc) (x/64)=aS:=⟨_,rfl⟩
   rw [haS] at iS cS fS hO2 hB2
   replace hxx:=Hd hxx
   replace hxa:=Hd hxa
   replace hv:=Hd hv
   replace htk:=Hd htk
   replace hl:=Hd hl
   replace hws:=Hd hws
   replace hm:=Hd hm
   replace haS:=Hd haS
   replace hO2:=Hd hO2
   replace hB2:=Hd hB2
   replace hB:=Hd hB
   clear hO eS hk
   go_wp2
   go_region
   all_goals
    go_wp2
    go_roundw
    case measure=>simp [intOf]; omega
    case rel =>
     have eb:bits BinOp.or IntKind.u64 (m:Int) (IntKind.u64.wrap (2 ^ (x%64)))=((m ||| 2 ^ (x%64):Nat):Int):=or_bit hwl (Nat.mod_lt _ (by decide))
     rw [eb]
     exact ⟨i+1,by go_num,by omega,hO2.out.drew,hB2.out.drew⟩
  ·have di:decide ((i:Int)<(xs.length:Int))=false:=decide_eq_false (by omega)
   obtain rfl:i=xs.length:=by omega
   rw [List.take_length] at hO
   replace hO:=Hd hO
   go_wp2
   go_ret2
   exact ⟨_,_,rfl,hB,rfl,hO.out⟩
theorem oneSets:OneCell 230 233 (.slice none 0 0) 24:=⟨by kernel_rfl,by kernel_rfl,rfl,by decide,fun _=>by kernel_rfl⟩
theorem bag_set (g id:Nat) (at_:Int) (sv:Value) (svs:List Value) (w:World) (c1:w.cell? ⟨g,1,none⟩=some sv) (h:ValsAt w sv svs) (hid:id<svs.length) :
 Calls Tryz.prog 213 #[.pointer (some ⟨g,0,none⟩),.int .i64 id,.int .i64 at_] w (Ret2 (fun x y w'=>x=svs[id]∧y=.nilIface∧w'=w) w):=by
 have l1:=h.len oneSets
 have iX:=fun w'=>h.idx oneSets id hid w'
 have cX:=h.cell id hid
 obtain ⟨va,vn,vc,rfl⟩:∃ a n c,sv=.slice a n c:=(by obtain ⟨a,c,e,_⟩:=h; exact ⟨a,_,c,e⟩)
 obtain ⟨y,hy⟩:∃ y,svs[id]=y:=⟨_,rfl⟩
 rw [hy] at cX ⊢
 have d1:decide ((id:Int)<0)=false:=decide_eq_false (by omega)
 have d2:decide ((id:Int)≥(svs.length:Int))=false:=decide_eq_false (by omega)
 replace h:=Hd h
 replace hy:=Hd hy
 go_enter Tryz.func213,Tryz.ntmps213
 go_wp2
 go_ret2
 exact ⟨_,_,rfl,Below.refl _ _,rfl,rfl,rfl⟩
theorem natI_snoc (xs:List Nat) (x:Nat):natI (xs++[x])=natI xs++[(x:Int)]:=by simp [natI]
theorem and_bit {m j:Nat} (hm:m<2 ^ 64):bits BinOp.and IntKind.u64 ((m:Int)/2 ^ j) 1=((m/2 ^ j &&& 1:Nat):Int):=by
 have e:((m:Int)/2 ^ j)=((m/2 ^ j:Nat):Int):=by norm_cast
 rw [e]
 exact bits_and_u64_nat (m/2 ^ j) 1 (Nat.lt_of_le_of_lt (Nat.div_le_self _ _) hm) (by decide)
theorem bag_Get (n g id:Nat) (sv:Value) (svs:List Value) (l:List Bool) (w:World) (c0:w.cell? ⟨g,0,none⟩=some (.int .i64 n)) (c1:w.cell? ⟨g,1,none⟩=some sv) (h:ValsAt w sv svs) (hid:id<svs.length) (hs:ValsAt w svs[id] (wordsV (wordsB l))) (hl:l.length=n) (hn:n≤4096) :
 Calls Tryz.prog 177 #[.pointer (some ⟨g,0,none⟩),.int .i64 id] w (Ret2 (fun x y w'=>y=.nilIface∧OwnI w.heap.size w' x (natI (memB l n))) w):=by
 obtain ⟨va,vn,vc,hsv⟩:∃ a n c,svs[id]=.slice a n c:=(by obtain ⟨a,c,e,_⟩:=hs; exact ⟨a,_,c,e⟩)
 have hset:=bag_set g id 0 sv svs w c1 h hid
 rw [hsv] at hset hs
 have hg:=World.block_lt_of_cell? _ _ c0
 replace h:=Hd h
 replace hs:=Hd hs
 replace hsv:=Hd hsv
 go_enter Tryz.func177,Tryz.ntmps177
 go_wp2_with fail
 refine hset.mono ?_
 rintro e w1 ⟨_,_,rfl,b1,rfl,rfl,rfl⟩
 go_wp2
 go_loopw [8,23] (fun ov iv wr=>∃ (i:Nat) (ow:Value),ow=ov∧iv=.int .i64 i∧i≤n∧OwnI w1.heap.size wr ow (natI (memB l i))∧Below w1.heap.size w1 wr) (fun _ iv _=>n-(intOf iv).toNat)
 case atStart=>exact ⟨0,_,rfl,rfl,Nat.zero_le _,OwnI.nil _ _,Below.refl _ _⟩
 case round =>
  obtain ⟨i,ow,rfl,rfl,hi,hO,hB⟩:=hrel
  obtain ⟨wo,rfl⟩:∃ wo:World,wo=wr:=⟨_,rfl⟩
  by_cases hil:i<n
  ·have di:decide ((i:Int)<(n:Int))=true:=decide_eq_true (by omega)
   have hv:=hs.out.below hB
   have hk:i/64<(wordsV (wordsB l)).length:=by rw [wordsV_len,wordsB_len]; omega
   have iS:∀ w',(Instr.indexAt 233 (.slice va vn vc) (.int .i64 ((i:Int)/64))).run Tryz.prog w'=.ok (.pointer (some (valAt (.slice va vn vc) (i/64)))) w':=by
    intro w'
    have:=hv.idx oneWords (i/64) hk w'
    rwa [show ((i/64:Nat):Int)=(i:Int)/64 by omega] at this
   have cS:=hv.cell (i/64) hk
   have eS:(wordsV (wordsB l))[i/64]=.int .u64 ((wordB l (i/64):Nat):Int):=by simp [wordsV,wordsB]
   rw [eS] at cS
   have m0:(0:Int)≤(i:Int)%64:=by omega
   have m1:(i:Int)%64≤64:=by omega
   have hwl:=wordB_lt l (i/64)
   have hbit:=bit_at l i
   have hsn:=memB_succ l i
   have hBs:=hB.size
   have hml:(natI (memB l i)).length≤4096:=by
    rw [natI_len]
    exact Nat.le_trans (List.length_filter_le _ _) (by rw [List.length_range]; omega)
   obtain ⟨m,hm⟩:∃ m,wordB l (i/64)=m:=⟨_,rfl⟩
   rw [hm] at cS hwl hbit
   have hab:=and_bit (m:=m) (j:=i%64) hwl
   rw [hbit] at hab
   obtain ⟨aS,haS⟩:∃ aS,valAt (.slice va vn vc) (i/64)=aS:=⟨_,rfl⟩
   rw [haS] at iS cS
   replace hv:=Hd hv
   replace hm:=Hd hm
   replace haS:=Hd haS
   replace hbit:=Hd hbit
   clear hk eS
   cases hb:l.getD i false with
   | true =>
    have ha1:bits BinOp.and IntKind.u64 ((m:Int)/2 ^ (i%64)) 1=1:=by rw [hab,hb]; rfl
    have hn1:natI (memB l (i+1))=natI (memB l i)++[(i:Int)]:=by rw [hsn,hb,if_pos rfl,natI_snoc]
    obtain ⟨M,hM⟩:∃ M,natI (memB l i)=M:=⟨_,rfl⟩
    rw [hM] at hn1 hO hml
    clear hab hsn hb
    replace hM:=Hd hM
    replace hn1:=Hd hn1
    go_wp2_with (at_builtin; refine wpl_append1 rfl _ _ rfl w1.heap.size _ M (i:Int) hO rfl rfl (by omega) hBs ?_)
    intro v' w3 hO3 b3 _ _
    rw [← hn1.out] at hO3
    replace hO3:=Hd hO3
    clear hO
    go_wp2
    go_roundw
    case measure=>simp [intOf]; omega
    case rel=>exact ⟨i+1,_,rfl,by go_num,by omega,hO3.out,hB.trans b3⟩
   | false =>
    have ha1:bits BinOp.and IntKind.u64 ((m:Int)/2 ^ (i%64)) 1=0:=by rw [hab,hb]; rfl
    have hn1:memB l (i+1)=memB l i:=by rw [hsn,hb,if_neg (by decide),List.append_nil]
    rw [← hn1] at hO
    clear hab hsn hb hn1
    replace hO:=Hd hO
    go_wp2
    go_roundw
    case measure=>simp [intOf]; omega
    case rel=>exact ⟨i+1,_,rfl,by go_num,by omega,hO.out,hB⟩
  ·have di:decide ((i:Int)<(n:Int))=false:=decide_eq_false (by omega)
   obtain rfl:i=n:=by omega
   replace hO:=Hd hO
   go_wp2
   go_ret2
   exact ⟨_,_,rfl,hB,rfl,hO.out⟩
end Go.Proofs.YtncpnaoabkjegaaGreatDoor
namespace Go.Proofs.YtncpnaoabkjegaaGreatDoor
open Go.RowKit
set_option maxRecDepth 100000
def GrewIn (v:Value) (w w':World):Prop:=∃ row,w.grownBy w' row∧∀ k,row=some k→v.ownBlock=some k
def ElseSame (f f':Names) (i:Nat×Nat):Prop:=∀ j,j≠i→f' j=f j
theorem wpl_appR {T E:TypeId} {z:Value} {b:Nat} (oc:OneCell T E z b) {w:World} {ops:Array Oper} {rest:List Oper} {o:Oper} {a:Act} {Q:Exit→Act→World→Prop} (hgd:o.guard=none) (s x:Operand)
 (ho:o.op=.call { callee:=.builtin .append,args:=#[s,x],argTypes:=#[T,T] })
 {B:Nat} {f:Names} (hR:Rows B w f) (i:Nat×Nat) (v:Value) (xs:List Value) (hi:f i=some (rowV E v xs)) (y:Value) (hy:y.oneCell'=true) (hs:a.eval s=v) (hx:a.eval x=.slice (some ⟨w.heap.size,0,none⟩) 1 1)
 (hlen:xs.length<4398046511104) (hB:B≤w.heap.size)
 (h:∀ v' w' f',Rows B w' f'→f' i=some (rowV E v' (xs++[y]))→ElseSame f f' i→Below B w w'→GrewIn v w w'→wpList Tryz.prog ops Q rest (a.put o.dst v') w') :
 wpList Tryz.prog ops Q (o::rest) a (w.alloc (.cells #[y] E)):=by
 have hown:=hR.ownV hi
 refine wpList_plain hgd fun K hK=>?_
 have hA:Rows B (w.alloc (.cells #[y] E)) f:=hR.below (belowAlloc w _)
 obtain ⟨v',w',hr,h2,h3⟩:=run_app oc (w.alloc (.cells #[y] E)) B o.type v _ (hown.alloc _) ⟨w.heap.size,0,none⟩ 1 [y] (by simp) (cell_one_new _ _ _) (by simp [hy]) (by simp; omega) (by simp; omega)
 unfold Oper.wp execOp
 simp only [ho,resolve,invoke,builtin,Sem.run_bind,Sem.run_pure,Result.andThen_ok,List.map_toArray,List.map_cons,List.map_nil,hs,hx]
 rw [show ([y]:List Value).length=1 from rfl] at hr
 rw [hr]
 have hal:∀ row,w.grownBy (w.alloc (.cells #[y] E)) row:=fun row=>World.grownBy_alloc w _ row
 obtain ⟨a1,n1,q1,e1⟩:=h2.shape
 obtain ⟨a2,n2,q2,e2⟩:=hown.shape
 rcases h3 with ⟨hroom,hg⟩ | ⟨hk,hg⟩
 ·have hob:=ownBlock_of_room e2 e1 hroom
  have hR':=hA.grown (r':=rowV E v' (xs++[y])) hi hg h2 (.inl hob)
  exact hK _ _ (h v' w' _ hR' (upd_same _ _ _) (fun j e=>upd_ne _ _ e) ((Below.refl _ _).grown ((hal v.ownBlock).trans hg) hB (fun k hk=>(hown.lt k hk).1)) ⟨v.ownBlock,(hal _).trans hg,fun _ hk=>hk⟩)
 ·have hR':=hA.grown (r':=rowV E v' (xs++[y])) hi (grown_any hg _) h2 (.inr ⟨_,hk,Nat.le_refl _⟩)
  exact hK _ _ (h v' w' _ hR' (upd_same _ _ _) (fun j e=>upd_ne _ _ e) ((Below.refl _ _).grown ((hal none).trans hg) hB (by intro k hk; cases hk)) ⟨none,(hal none).trans hg,fun k hk=>by cases hk⟩)
abbrev box3 (T:TypeId) (g:Nat) (cs:List Value):Row:=⟨T,3,.slice (some ⟨g,0,none⟩) 1 1,1,cs⟩
structure BagAt (B:Nat) (w:World) (f:Names) (g b n:Nat) (sets:List (List Bool)) (sv:Value) (svs:List Value):Prop where
 box:f (20,0)=some (box3 232 g [.int .i64 n,sv,.map (some b)])
 out:f (21,0)=some (rowV 233 sv svs)
 len:svs.length=sets.length
 each:∀ i,i<sets.length→f (22,i)=some (rowV 272 (svs.getD i .nilIface) (wordsV (wordsB (sets.getD i []))))
 all:∀ x∈sets,x.length=n
 map:BagMap w b n sets
 blk:B≤b
section
variable {B:Nat} {w:World} {f:Names} {g b n:Nat} {sets:List (List Bool)} {sv:Value} {svs:List Value}
theorem BagAt.cells (h:BagAt B w f g b n sets sv svs) (hR:Rows B w f):w.cell? ⟨g,0,none⟩=some (.int .i64 n)∧w.cell? ⟨g,1,none⟩=some sv∧w.cell? ⟨g,2,none⟩=some (.map (some b)) :=
 ⟨hR.cell h.box (g:=g) (cap:=1) rfl 0 (show 0<1*3 by decide),hR.cell h.box (g:=g) (cap:=1) rfl 1 (show 1<1*3 by decide),hR.cell h.box (g:=g) (cap:=1) rfl 2 (show 2<1*3 by decide)⟩
theorem BagAt.frz (h:BagAt B w f g b n sets sv svs) (hR:Rows B w f) (k:Nat):w.frozen? ⟨g,k,none⟩=false:=hR.frozen h.box (g:=g) (cap:=1) rfl k
theorem BagAt.low (h:BagAt B w f g b n sets sv svs) (hR:Rows B w f):B≤g∧g<w.heap.size:=hR.lt h.box g rfl
theorem BagAt.outer (h:BagAt B w f g b n sets sv svs) (hR:Rows B w f):ValsAt w sv svs:=(hR.ownV h.out).at
theorem BagAt.set (h:BagAt B w f g b n sets sv svs) (hR:Rows B w f) {i:Nat} (hi:i<sets.length):ValsAt w (svs.getD i .nilIface) (wordsV (wordsB (sets.getD i []))):=(hR.ownV (h.each i hi)).at
theorem BagAt.below {w':World} (h:BagAt B w f g b n sets sv svs) (hb:Below w.heap.size w w'):BagAt B w' f g b n sets sv svs :=
 ⟨h.box,h.out,h.len,h.each,h.all,h.map.below hb,h.blk⟩
theorem BagAt.congr {f':Names} (h:BagAt B w f g b n sets sv svs) (e:∀ i,(i.1=20∨i.1=21∨i.1=22)→f' i=f i):BagAt B w f' g b n sets sv svs :=
 ⟨(e _ (.inl rfl)).trans h.box,(e _ (.inr (.inl rfl))).trans h.out,h.len,fun i hi=>(e _ (.inr (.inr rfl))).trans (h.each i hi),h.all,h.map,h.blk⟩
end
set_option maxHeartbeats 8000000
def sOverlap:ByteArray:=⟨#[111,118,101,114,108,97,112]⟩
def smallP (k R:Int) (T:List Int):PErr :=
 match checkP k R T with
 | some t=>some t
 | none=>if 256<T.length then fresh sRule 0 4 else none
theorem smallP_ok {K R:Nat} {T:List Int} (h:RuleOk K R T):smallP K R T=if 256<T.length then fresh sRule 0 4 else none:=by
 unfold smallP; rw [h.check]
theorem smallP_none {k R:Int} {T:List Int} (h:smallP k R T=none):checkP k R T=none∧T.length≤256:=by
 unfold smallP at h
 cases hc:checkP k R T with
 | some t=>rw [hc] at h; cases h
 | none =>
  rw [hc] at h
  refine ⟨rfl,?_⟩
  by_cases hl:256<T.length
  ·rw [if_pos hl] at h; simp [fresh] at h
  ·omega
theorem small_any (r:Nat→Addr) (k R:Int) (va:Option Addr) (vn vc:Nat) (T:List Int) (w:World) (hg:Glob r w) (h:IntsAt w (.slice va vn vc) T) :
 Calls Tryz.prog 13 #[.agg #[.int .i64 k,.int .i64 R,.slice va vn vc]] w (Ret1 (fun x w'=>ErrIs r w' (smallP k R T) x) w):=by
 have b0:=belowAlloc w (.cells #[.int .i64 k,.int .i64 R,.slice va vn vc] 24)
 have q:Box3 (w.alloc (.cells #[.int .i64 k,.int .i64 R,.slice va vn vc] 24)) w.heap.size (.int .i64 k) (.int .i64 R) (.slice va vn vc):=by simp [Box3,go_sem]
 have lT:=h.len
 replace hg:=Hd (hg.below b0)
 replace h:=Hd (h.below b0)
 obtain ⟨e0,hsm,he0⟩:∃ e0,(smallP k R T=match e0 with | some t=>some t | none=>if 256<T.length then fresh sRule 0 4 else none)∧checkP k R T=e0:=⟨_,rfl,rfl⟩
 replace he0:=Hd he0
 go_enter Tryz.func13,Tryz.ntmps13
 go_wp2_with fail
 refine (check_any r k R _ T _ hg.out h.out).mono ?_
 rintro e w1 ⟨x,rfl,b1,he⟩
 rw [he0.out] at he
 cases e0 with
 | some t =>
  simp only [] at hsm
  replace hsm:=Hd hsm
  obtain ⟨T1,a1,rfl⟩:=ErrIs.some_shape he
  replace he:=Hd he
  go_wp2
  go_ret
  exact ⟨_,rfl,Below.step b0 b1,by rw [hsm.out]; exact he.out⟩
 | none =>
  obtain rfl:=he.none_eq
  simp only [] at hsm
  clear he
  obtain ⟨⟨z0,z1,z2⟩,-,-,-⟩:=q.below b1
  by_cases hl:256<T.length
  ·rw [if_pos hl] at hsm
   replace hsm:=Hd hsm
   go_wp2_with fail
   refine (rule_wrong r _ _ _ (hg.out.below b1) (by decide) (by decide)).mono ?_
   rintro e w2 ⟨x,rfl,b2,he⟩
   go_wp2
   go_ret
   exact ⟨_,rfl,Below.step b0 (Below.step b1 b2),by rw [hsm.out]; exact he⟩
  ·rw [if_neg hl] at hsm
   replace hsm:=Hd hsm
   go_wp2
   go_ret
   exact ⟨_,rfl,Below.step b0 b1,by rw [hsm.out]; rfl⟩
theorem over_small (r:Nat→Addr) (k R:Int) (va:Option Addr) (vn vc:Nat) (T:List Int) (w:World) (hg:Glob r w) (h:IntsAt w (.slice va vn vc) T) :
 Calls Tryz.prog 173 #[.agg #[.int .i64 k,.int .i64 R,.slice va vn vc]] w (Ret1 (fun x w'=>ErrIs r w' (under sOverlap 0 (smallP k R T)) x) w):=by
 have b0:=belowAlloc w (.cells #[.int .i64 k,.int .i64 R,.slice va vn vc] 24)
 replace hg:=Hd (hg.below b0)
 replace h:=Hd (h.below b0)
 go_enter Tryz.func173,Tryz.ntmps173
 go_wp2_with fail
 refine (small_any r k R va vn vc T _ hg.out h.out).mono ?_
 rintro e w1 ⟨x,rfl,b1,he⟩
 go_wp2_with fail
 refine (under_any r _ 0 _ x _ he).mono ?_
 rintro e w2 ⟨y,rfl,b2,hy⟩
 go_wp2
 go_ret
 exact ⟨_,rfl,Below.step b0 (Below.step b1 b2),hy⟩
theorem over_wrong (r:Nat→Addr) (at_ n:Int) (w:World) (hg:Glob r w) (h1:1≤n) (h2:n≤11) :
 Calls Tryz.prog 160 #[.int .i64 at_,.int .i64 n] w (Ret1 (fun v w'=>ErrIs r w' (fresh sOverlap at_ n) v) w):=by
 go_enter Tryz.func160,Tryz.ntmps160
 go_wp2_with fail
 refine (new_any r _ at_ n w hg h1 h2).mono ?_
 rintro e w' ⟨v,rfl,hb,he⟩
 go_wp2
 go_ret
 exact ⟨_,rfl,hb,he⟩
theorem over_nodes (K R:Nat) (va:Option Addr) (vn vc:Nat) (T:List Int) (w:World) (h:IntsAt w (.slice va vn vc) T) (h1:1≤K) (hT:T.length≤16384) :
 Calls Tryz.prog 161 #[.agg #[.int .i64 K,.int .i64 R,.slice va vn vc]] w fun e w'=>e=.returned (.int .i64 ((T.length/K:Nat):Int))∧w'=w.alloc (.cells #[.int .i64 K,.int .i64 R,.slice va vn vc] 24):=by
 have hK0:((K:Int)==0)=false:=by rw [beq_eq_false_iff_ne]; omega
 have hK1:¬ (K:Int)=0:=by omega
 have hK2:(0:Int)<K:=by omega
 have hK3:¬ K=0:=by omega
 have lT:=h.len
 have hq0:0≤(T.length:Int)/(K:Int):=Int.ediv_nonneg (by omega) (by omega)
 have hqc:(T.length:Int)/(K:Int)=((T.length/K:Nat):Int):=by simp
 have hqw:IntKind.i64.wrap ((T.length:Int)/(K:Int))=(T.length:Int)/(K:Int):=by
  have:T.length/K≤16384:=Nat.le_trans (Nat.div_le_self _ _) hT
  exact wrapK (by omega) (by rw [hqc]; omega)
 rw [← hqc]
 replace hqc:=Hd hqc
 go_enter Tryz.func161,Tryz.ntmps161
 go_wp2
 go_ret
 exact ⟨rfl,rfl⟩
theorem over_check1 (x k:Int) (b:Nat) (w:World) (hb:w.cell? ⟨b,0,none⟩=some (.int .i64 k)) :
 Calls Tryz.prog 205 #[.int .i64 x,.pointer (some ⟨b,0,none⟩)] w fun e w'=>e=.returned (.bool (odd1 k x))∧w=w':=by
 by_cases h:x<0
 ·have e:odd1 k x=true:=by simp [odd1,h]
  rw [e]
  go_enter Tryz.func205,Tryz.ntmps205
  go_wp2
  go_ret
  exact ⟨rfl,rfl⟩
 ·have e:odd1 k x=decide (k≤x):=by simp [odd1,h]
  rw [e]
  go_enter Tryz.func205,Tryz.ntmps205
  go_wp2
  go_ret
  exact ⟨ret_bool (by simp),rfl⟩
theorem eg_over_check1 (args:Array Value) (w:World):(callFunc 205 args).run Tryz.prog w=.ok (.enter 205 args) w:=by kernel_rfl
def overP (k R:Int) (T ws:List Int) (most:Int):PErr :=
 match smallP k R T with
 | some t=>under sOverlap 0 (some t)
 | none=>if most<ws.length then fresh sOverlap 1 4 else if idxOf (odd1 k) ws=-1 then none else fresh sOverlap (idxOf (odd1 k) ws) 2
theorem over_check (r:Nat→Addr) (k R:Int) (va:Option Addr) (vn vc:Nat) (T:List Int) (u:Value) (ws:List Int) (most:Int) (w:World) (hg:Glob r w) (h:IntsAt w (.slice va vn vc) T) (hu:IntsAt w u ws) :
 Calls Tryz.prog 159 #[.agg #[.int .i64 k,.int .i64 R,.slice va vn vc],u,.int .i64 most] w (Ret1 (fun x w'=>ErrIs r w' (overP k R T ws most) x) w):=by
 have b0:=belowAlloc w (.cells #[.int .i64 k,.int .i64 R,.slice va vn vc] 24)
 have q:Box3 (w.alloc (.cells #[.int .i64 k,.int .i64 R,.slice va vn vc] 24)) w.heap.size (.int .i64 k) (.int .i64 R) (.slice va vn vc):=by simp [Box3,go_sem]
 have l1:=hu.len
 have lm:=hu.len_le
 obtain ⟨a1,n1,c1,rfl⟩:=hu.shape
 replace hg:=Hd (hg.below b0)
 replace h:=Hd (h.below b0)
 replace hu:=Hd (hu.below b0)
 obtain ⟨e0,hsm,he0⟩:∃ e0,(overP k R T ws most=match e0 with | some t=>under sOverlap 0 (some t) | none=>if most<ws.length then fresh sOverlap 1 4 else if idxOf (odd1 k) ws=-1 then none else fresh sOverlap (idxOf (odd1 k) ws) 2)∧smallP k R T=e0:=⟨_,rfl,rfl⟩
 replace he0:=Hd he0
 go_enter Tryz.func159,Tryz.ntmps159
 go_wp2_with fail
 refine (over_small r k R va vn vc T _ hg.out h.out).mono ?_
 rintro e w1 ⟨x,rfl,b1,he⟩
 rw [he0.out] at he
 cases e0 with
 | some t =>
  simp only [] at hsm
  replace hsm:=Hd hsm
  obtain ⟨T1,a1,rfl⟩:=ErrIs.some_shape he
  replace he:=Hd he
  go_wp2
  go_ret
  exact ⟨_,rfl,Below.step b0 b1,by rw [hsm.out]; exact he.out⟩
 | none =>
  obtain rfl:=he.none_eq
  simp only [] at hsm
  clear he
  obtain ⟨⟨z0,z1,z2⟩,-,-,-⟩:=q.below b1
  by_cases hl:most<ws.length
  ·rw [if_pos hl] at hsm
   replace hsm:=Hd hsm
   go_wp2_with fail
   refine (over_wrong r _ _ _ (hg.out.below b1) (by decide) (by decide)).mono ?_
   rintro e w2 ⟨x,rfl,b2,he⟩
   go_wp2
   go_ret
   exact ⟨_,rfl,Below.step b0 (Below.step b1 b2),by rw [hsm.out]; exact he⟩
  ·rw [if_neg hl] at hsm
   rcases idxOf_cases (odd1 k) ws with ⟨hi,_⟩ | ⟨i,hi,hi',_⟩
   ·rw [if_pos hi] at hsm
    replace hi:=Hd hi
    replace hsm:=Hd hsm
    go_wp2_with fail
    refine (indexFunc_any _ _ 205 ws (odd1 k) _ (hu.out.below b1) eg_over_check1 (fun x _=>over_check1 x k _ _ z0)).mono ?_
    rintro e w2 ⟨rfl,rfl⟩
    rw [hi.out]
    go_wp2
    go_ret
    exact ⟨_,rfl,Below.step b0 b1,by rw [hsm.out]; rfl⟩
   ·rw [if_neg (by omega),hi] at hsm
    replace hi:=Hd hi
    replace hsm:=Hd hsm
    go_wp2_with fail
    refine (indexFunc_any _ _ 205 ws (odd1 k) _ (hu.out.below b1) eg_over_check1 (fun x _=>over_check1 x k _ _ z0)).mono ?_
    rintro e w2 ⟨rfl,rfl⟩
    rw [hi.out]
    go_wp2_with fail
    refine (over_wrong r _ _ _ (hg.out.below b1) (by decide) (by decide)).mono ?_
    rintro e w2 ⟨x,rfl,b2,he⟩
    go_wp2
    go_ret
    exact ⟨_,rfl,Below.step b0 (Below.step b1 b2),by rw [hsm.out]; exact he⟩
def sBag:ByteArray:=⟨#[98,97,103]⟩
theorem bag_wrong (r:Nat→Addr) (at_ n:Int) (w:World) (hg:Glob r w) (h1:1≤n) (h2:n≤11) :
 Calls Tryz.prog 174 #[.int .i64 at_,.int .i64 n] w (Ret1 (fun v w'=>ErrIs r w' (fresh sBag at_ n) v) w):=by
 go_enter Tryz.func174,Tryz.ntmps174
 go_wp2_with fail
 refine (new_any r _ at_ n w hg h1 h2).mono ?_
 rintro e w' ⟨v,rfl,hb,he⟩
 go_wp2
 go_ret
 exact ⟨_,rfl,hb,he⟩
theorem wordsB_small {y:List Bool} {n:Nat} (hy:y.length=n) (h1:1≤n) (hn:n≤4096):1≤(wordsB y).length∧(wordsB y).length≤64:=by
 rw [wordsB_len]; omega
theorem put_old {B:Nat} {f:Names} {g b n:Nat} {sets:List (List Bool)} {sv:Value} {svs:List Value} {w:World} (hR:Rows B w f) (hb:BagAt B w f g b n sets sv svs) (v:Value) (y:List Bool) (hv:ValsAt w v (wordsV (wordsB y))) (hy:y.length=n) (hm:y∈sets) (h1:1≤n) (hn:n≤4096) :
 Calls Tryz.prog 176 #[.pointer (some ⟨g,0,none⟩),v] w (Ret3 (fun x d e _=>x=.int .i64 (sets.idxOf y:Nat)∧d=.bool false∧e=.nilIface) w):=by
 obtain ⟨z0,z1,z2⟩:=hb.cells hR
 obtain ⟨k1,k2⟩:=wordsB_small hy h1 hn
 have key:=bag_key v (wordsB y) w hv k1 k2 (wordsB_lt y)
 have hgl:=(hb.low hR).2
 have hmap:=hb.map
 replace hb:=Hd hb
 replace hR:=Hd hR
 replace hv:=Hd hv
 go_enter Tryz.func176,Tryz.ntmps176
 go_wp2_with fail
 refine key.mono ?_
 rintro e w1 ⟨_,rfl,b1,rfl⟩
 have y2:w1.cell? ⟨g,2,none⟩=some (.map (some b)):=by rw [b1.cell hgl]; exact z2
 have hit:=(hmap.below b1).hit hm hy hn
 go_wp2
 go_ret3
 exact ⟨_,_,_,rfl,b1,rfl,rfl,rfl⟩
theorem put_big (r:Nat→Addr) {B:Nat} {f:Names} {g b n:Nat} {sets:List (List Bool)} {sv:Value} {svs:List Value} {w:World} (hg:Glob r w) (hR:Rows B w f) (hb:BagAt B w f g b n sets sv svs) (v:Value) (y:List Bool) (hv:ValsAt w v (wordsV (wordsB y))) (hy:y.length=n) (hm:y∉sets) (h1:1≤n) (hn:n≤4096) (h4:sets.length=4096) :
 Calls Tryz.prog 176 #[.pointer (some ⟨g,0,none⟩),v] w (Ret3 (fun x d e w'=>x=.int .i64 0∧d=.bool false∧ErrIs r w' (fresh sBag 0 4) e) w):=by
 obtain ⟨z0,z1,z2⟩:=hb.cells hR
 obtain ⟨k1,k2⟩:=wordsB_small hy h1 hn
 have key:=bag_key v (wordsB y) w hv k1 k2 (wordsB_lt y)
 have hgl:=(hb.low hR).2
 have hmap:=hb.map
 have ho:=hb.outer hR
 have l1:=ho.len oneSets
 have hl4:svs.length=4096:=by rw [hb.len,h4]
 rw [hl4] at l1
 obtain ⟨va,vn,vc,rfl⟩:∃ a n c,sv=.slice a n c:=(by obtain ⟨a,c,e,_⟩:=ho; exact ⟨a,_,c,e⟩)
 replace ho:=Hd ho
 replace hb:=Hd hb
 replace hR:=Hd hR
 replace hv:=Hd hv
 replace hg:=Hd hg
 go_enter Tryz.func176,Tryz.ntmps176
 go_wp2_with fail
 refine key.mono ?_
 rintro e w1 ⟨_,rfl,b1,rfl⟩
 have y1:w1.cell? ⟨g,1,none⟩=some (.slice va vn vc):=by rw [b1.cell hgl]; exact z1
 have y2:w1.cell? ⟨g,2,none⟩=some (.map (some b)):=by rw [b1.cell hgl]; exact z2
 obtain ⟨u,miss⟩:=(hmap.below b1).miss hm hy hn
 have hg1:=Hd (hg.out.below b1)
 go_wp2_with fail
 refine (bag_wrong r 0 4 _ hg1.out (by decide) (by decide)).mono ?_
 rintro e w2 ⟨x,rfl,b2,he⟩
 have b12:=Below.step b1 b2
 obtain ⟨T,a,rfl⟩:=ErrIs.some_shape he
 replace he:=Hd he
 go_wp2
 go_ret3
 exact ⟨_,_,_,rfl,b12,rfl,rfl,he.out⟩
theorem Rows.not_map {B:Nat} {w:World} {f:Names} {i:Nat×Nat} {r:Row} {b:Nat} {es:Array MapEntry} {c:Nat} (h:Rows B w f) (hi:f i=some r) (hb:w.heap[b]?=some (.map es c)):r.v.ownBlock≠some b:=by
 have ho:=h.1 i r hi
 rcases ho.2 with ⟨e,_⟩ | ⟨g,cap,cur,e,_,hh,_⟩
 ·rw [e]; intro q; cases q
 ·rw [e]; intro q
  have:g=b:=by injection q
  subst this; rw [hh] at hb; cases hb
theorem BagAt.more {B:Nat} {w w':World} {f f3:Names} {g b n:Nat} {sets:List (List Bool)} {sv sv' v:Value} {svs:List Value} {y:List Bool} (h:BagAt B w f g b n sets sv svs) (hR:Rows B w' f3) (e20:f3 (20,0)=some (box3 232 g [.int .i64 n,sv',.map (some b)])) (e21:f3 (21,0)=some (rowV 233 sv' (svs++[v])))
 (e22:∀ i,f3 (22,i)=f (22,i)) (e23:f3 (23,0)=some (rowV 272 v (wordsV (wordsB y)))) (hy:y.length=n) (hm:BagMap w' b n (sets++[y])) :
 ∃ f',Rows B w' f'∧BagAt B w' f' g b n (sets++[y]) sv' (svs++[v])∧∀ j:Nat×Nat,j.1≠22→j.1≠23→f' j=f3 j:=by
 have hown:=hR.1 _ _ e23
 have hmv:=hR.move (j:=(22,sets.length)) e23 hown rfl
 have ll:=h.len
 refine ⟨_,hmv,⟨?_,?_,by simp [ll],fun i hi=>?_,fun x hx=>?_,hm,h.blk⟩,fun j h1 h2=>?_⟩
 ·rw [upd_ne _ _ (by intro e; cases e),upd_ne _ _ (by intro e; cases e)]; exact e20
 ·rw [upd_ne _ _ (by intro e; cases e),upd_ne _ _ (by intro e; cases e)]; exact e21
 ·rw [List.length_append,List.length_singleton] at hi
  by_cases c:i=sets.length
  ·subst c
   have a1:(svs++[v]).getD sets.length .nilIface=v:=by rw [← ll]; simp [List.getD]
   have a2:(sets++[y]).getD sets.length []=y:=by simp [List.getD]
   rw [upd_same,a1,a2]
  ·have hi2:i<sets.length:=by omega
   have a1:(svs++[v]).getD i .nilIface=svs.getD i .nilIface:=by simp [List.getD,List.getElem?_append_left (show i<svs.length by omega)]
   have a2:(sets++[y]).getD i []=sets.getD i []:=by simp [List.getD,List.getElem?_append_left hi2]
   rw [upd_ne _ _ (by intro e; injection e with _ e; exact c e),upd_ne _ _ (by intro e; cases e),a1,a2,e22]
   exact h.each i hi2
 ·rcases List.mem_append.1 hx with hx | hx
  ·exact h.all x hx
  ·rw [List.mem_singleton] at hx; rw [hx]; exact hy
 ·rw [upd_ne _ _ (by intro e; exact h1 (by rw [e])),upd_ne _ _ (by intro e; exact h2 (by rw [e]))]
def PutPost (B:Nat) (f:Names) (g b n:Nat) (sets:List (List Bool)) (svs:List Value) (v:Value) (y:List Bool) (m:Nat) (w:World) (e:Ending) (w':World):Prop :=
 e=.returned (.tuple #[.int .i64 (m:Nat),.bool true,.nilIface])∧Below B w w'∧∃ f' sv',Rows B w' f'∧BagAt B w' f' g b n (sets++[y]) sv' (svs++[v])∧∀ j:Nat×Nat,j.1≠20→j.1≠21→j.1≠22→j.1≠23→f' j=f j
theorem put_new {B:Nat} {f:Names} {g b n:Nat} {sets:List (List Bool)} {sv:Value} {svs:List Value} {w:World} (hR:Rows B w f) (hb:BagAt B w f g b n sets sv svs) (v:Value) (y:List Bool) (hi:f (23,0)=some (rowV 272 v (wordsV (wordsB y)))) (hy:y.length=n) (hm:y∉sets) (h1:1≤n) (hn:n≤4096) (h4:sets.length<4096) :
 Calls Tryz.prog 176 #[.pointer (some ⟨g,0,none⟩),v] w (PutPost B f g b n sets svs v y sets.length w):=by
 obtain ⟨z0,z1,z2⟩:=hb.cells hR
 obtain ⟨k1,k2⟩:=wordsB_small hy h1 hn
 have hv:=(hR.ownV hi).at
 obtain ⟨ua,un,uc,rfl⟩:=(hR.ownV hi).shape
 have key:=bag_key _ (wordsB y) w hv k1 k2 (wordsB_lt y)
 obtain ⟨hgB,hgl⟩:=hb.low hR
 have hmap:=hb.map
 have ho:=hb.outer hR
 have hlen:=hb.len
 have l1:=ho.len oneSets
 obtain ⟨va,vn,vc,rfl⟩:=(hR.ownV hb.out).shape
 replace ho:=Hd ho
 replace hb:=Hd hb
 replace hR:=Hd hR
 replace hv:=Hd hv
 obtain ⟨m,hm0⟩:∃ m,sets.length=m:=⟨_,rfl⟩
 rw [hm0] at hlen h4 ⊢
 rw [hlen] at l1
 have d4:decide ((m:Int)=4096)=false:=decide_eq_false (by omega)
 go_enter Tryz.func176,Tryz.ntmps176
 go_wp2_with fail
 refine key.mono ?_
 rintro e w1 ⟨_,rfl,b1,rfl⟩
 have y1:w1.cell? ⟨g,1,none⟩=some (.slice va vn vc):=by rw [b1.cell hgl]; exact z1
 have y2:w1.cell? ⟨g,2,none⟩=some (.map (some b)):=by rw [b1.cell hgl]; exact z2
 have hmap1:=hmap.below b1
 obtain ⟨u,miss⟩:=hmap1.miss hm hy hn
 have hR1:=hR.out.below b1
 obtain ⟨w2,hst,hmap2,g2⟩:=hmap1.store hm hy hn hb.out.all (by omega)
 rw [hm0] at hst
 obtain ⟨es,cl,hblk⟩:=hmap1.blk
 have hR2:=hR1.mapB hblk g2
 have B2:Below B w1 w2:=(Below.refl _ _).grown g2 (Nat.le_trans (Nat.le_of_lt (Nat.lt_of_le_of_lt hgB hgl)) b1.size) (by intro k hk; injection hk with hk; subst hk; exact hb.out.blk)
 have x0:w2.cell? ⟨g,0,none⟩=some (.int .i64 n):=hR2.cell hb.out.box (g:=g) (cap:=1) rfl 0 (show 0<1*3 by decide)
 have x1:w2.cell? ⟨g,1,none⟩=some (.slice va vn vc):=hR2.cell hb.out.box (g:=g) (cap:=1) rfl 1 (show 1<1*3 by decide)
 have x2:w2.cell? ⟨g,2,none⟩=some (.map (some b)):=hR2.cell hb.out.box (g:=g) (cap:=1) rfl 2 (show 2<1*3 by decide)
 have hB2s:B≤w2.heap.size:=Nat.le_trans (Nat.le_of_lt (Nat.lt_of_le_of_lt hgB hgl)) (Nat.le_trans b1.size B2.size)
 obtain ⟨es2,cl2,hblk2⟩:=hmap2.blk
 have hsl:svs.length<4398046511104:=by omega
 have b12:Below B w w2:=(b1.mono (Nat.le_of_lt (Nat.lt_of_le_of_lt hgB hgl))).trans B2
 replace hmap2:=Hd hmap2
 replace hblk2:=Hd hblk2
 replace hblk:=Hd hblk
 replace b12:=Hd b12
 replace hi:=Hd hi
 clear hmap hmap1 hR1 B2 key
 go_wp2_with (at_builtin; go_loud (refine wpl_appR oneSets rfl _ _ rfl hR2 (21,0) (.slice va vn vc) svs hb.out.out (.slice ua un uc) rfl rfl rfl hsl hB2s ?_))
 intro v' w3 f3 hR3 i3 o3 B3 hgr
 obtain ⟨row,g3,hrow⟩:=hgr
 obtain ⟨xa,xn,xc,rfl⟩:=(hR3.ownV i3).shape
 have hmap3:=hmap2.out.kept g3 (fun e=>hR2.not_map hb.out.out hblk2.out (hrow b e.symm))
 have e20:f3 (20,0)=some (box3 232 g [.int .i64 n,.slice va vn vc,.map (some b)]):=(o3 _ (by intro e; cases e)).trans hb.out.box
 have t1:w3.cell? ⟨g,1,none⟩=some (.slice va vn vc):=hR3.cell e20 (g:=g) (cap:=1) rfl 1 (show 1<1*3 by decide)
 have t2:=hR3.frozen e20 (g:=g) (cap:=1) rfl 1
 obtain ⟨es3,cl3,hblk3⟩:=hmap3.blk
 have hR4:=hR3.set e20 (g:=g) (cap:=1) rfl 1 (.slice xa xn xc)
 have g4:w3.grownBy (w3.setCell ⟨g,1,none⟩ (.slice xa xn xc)) (some g):=(World.ownsRow.stored (hR3.1 _ _ e20) 1 (.slice xa xn xc)).2
 have hmap4:=hmap3.kept g4 (fun e=>hR3.not_map e20 hblk3 (by injection e with e; rw [e]; rfl))
 have hfin:=hb.out.more hR4 (sv':=.slice xa xn xc) (v:=.slice ua un uc) (y:=y) (by rw [upd_same]; rfl) (by rw [upd_ne _ _ (by intro e; cases e)]; exact i3) (fun i=>by rw [upd_ne _ _ (by intro e; cases e)]; exact o3 _ (by intro e; cases e)) (by rw [upd_ne _ _ (by intro e; cases e),o3 _ (by intro e; cases e)]; exact hi.out) hy hmap4
 have bfin:=b12.out.trans (B3.setCell (show B≤(⟨g,1,none⟩:Addr).block from hgB) (.slice xa xn xc))
 obtain ⟨f5,hR5,hb5,o5⟩:=hfin
 have o6:∀ j:Nat×Nat,j.1≠20→j.1≠21→j.1≠22→j.1≠23→f5 j=f j:=fun j h20 h21 h22 h23=>by
  rw [o5 j h22 h23,upd_ne _ _ (by intro e; exact h20 (by rw [e])),o3 j (by intro e; exact h21 (by rw [e]))]
 replace hb5:=Hd hb5
 replace hR5:=Hd hR5
 replace bfin:=Hd bfin
 clear hR4 hmap3 hmap4 hblk3 hR3 hR2 B3 g3 g4 i3 o3
 go_wp2
 go_ret3
 exact ⟨rfl,bfin.out,f5,_,hR5.out,hb5.out,o6⟩
theorem bag_Put_old {B:Nat} {f:Names} {g b n:Nat} {sets:List (List Bool)} {sv:Value} {svs:List Value} {w:World} (hR:Rows B w f) (hb:BagAt B w f g b n sets sv svs) (v:Value) (xs:List Nat) (h:IntsAt w v (natI xs)) (hx:∀ x∈xs,x<n) (hxl:xs.length≤100000) (hm:setOf n xs∈sets) (h1:1≤n) (hn:n≤4096) :
 Calls Tryz.prog 104 #[.pointer (some ⟨g,0,none⟩),v] w (Ret3 (fun x d e _=>x=.int .i64 (sets.idxOf (setOf n xs):Nat)∧d=.bool false∧e=.nilIface) w):=by
 obtain ⟨z0,z1,z2⟩:=hb.cells hR
 have hbits:=bag_bits n g v xs w z0 h hx hxl h1 hn
 obtain ⟨va,vn,vc,rfl⟩:=h.shape
 replace hb:=Hd hb
 replace hR:=Hd hR
 replace h:=Hd h
 go_enter Tryz.func104,Tryz.ntmps104
 go_wp2_with fail
 refine hbits.mono ?_
 rintro e w1 ⟨x,_,rfl,b1,rfl,ho⟩
 have hput:=put_old (hR.out.below b1) (hb.out.below b1) x (setOf n xs) ho.at (setOf_len _ _) hm h1 hn
 obtain ⟨xa,xn,xc,rfl⟩:=ho.shape
 replace ho:=Hd ho
 go_wp2_with fail
 refine hput.mono ?_
 rintro e w2 ⟨_,_,_,rfl,b2,rfl,rfl,rfl⟩
 have b12:=Below.step b1 b2
 go_wp2
 go_ret3
 exact ⟨_,_,_,rfl,b12,rfl,rfl,rfl⟩
theorem bag_Put_big (r:Nat→Addr) {B:Nat} {f:Names} {g b n:Nat} {sets:List (List Bool)} {sv:Value} {svs:List Value} {w:World} (hg:Glob r w) (hR:Rows B w f) (hb:BagAt B w f g b n sets sv svs) (v:Value) (xs:List Nat) (h:IntsAt w v (natI xs)) (hx:∀ x∈xs,x<n) (hxl:xs.length≤100000) (hm:setOf n xs∉sets) (h1:1≤n) (hn:n≤4096) (h4:sets.length=4096) :
 Calls Tryz.prog 104 #[.pointer (some ⟨g,0,none⟩),v] w (Ret3 (fun x d e w'=>x=.int .i64 0∧d=.bool false∧ErrIs r w' (fresh sBag 0 4) e) w):=by
 obtain ⟨z0,z1,z2⟩:=hb.cells hR
 have hbits:=bag_bits n g v xs w z0 h hx hxl h1 hn
 obtain ⟨va,vn,vc,rfl⟩:=h.shape
 replace hb:=Hd hb
 replace hR:=Hd hR
 replace h:=Hd h
 replace hg:=Hd hg
 go_enter Tryz.func104,Tryz.ntmps104
 go_wp2_with fail
 refine hbits.mono ?_
 rintro e w1 ⟨x,_,rfl,b1,rfl,ho⟩
 have hput:=put_big r (hg.out.below b1) (hR.out.below b1) (hb.out.below b1) x (setOf n xs) ho.at (setOf_len _ _) hm h1 hn h4
 obtain ⟨xa,xn,xc,rfl⟩:=ho.shape
 replace ho:=Hd ho
 go_wp2_with fail
 refine hput.mono ?_
 rintro e w2 ⟨_,_,_,rfl,b2,rfl,rfl,he⟩
 have b12:=Below.step b1 b2
 obtain ⟨T,a,rfl⟩:=ErrIs.some_shape he
 replace he:=Hd he
 go_wp2
 go_ret3
 exact ⟨_,_,_,rfl,b12,rfl,rfl,he.out⟩
theorem bag_Put_new {B:Nat} {f:Names} {g b n:Nat} {sets:List (List Bool)} {sv:Value} {svs:List Value} {w:World} (hR:Rows B w f) (hb:BagAt B w f g b n sets sv svs) (v:Value) (xs:List Nat) (h:IntsAt w v (natI xs)) (hx:∀ x∈xs,x<n) (hxl:xs.length≤100000) (hm:setOf n xs∉sets) (h1:1≤n) (hn:n≤4096) (h4:sets.length<4096) :
 Calls Tryz.prog 104 #[.pointer (some ⟨g,0,none⟩),v] w (fun e w'=>∃ u,PutPost B f g b n sets svs u (setOf n xs) sets.length w e w'):=by
 obtain ⟨z0,z1,z2⟩:=hb.cells hR
 have hgB:=(hb.low hR)
 have hbits:=bag_bits n g v xs w z0 h hx hxl h1 hn
 obtain ⟨va,vn,vc,rfl⟩:=h.shape
 replace hb:=Hd hb
 replace hR:=Hd hR
 replace h:=Hd h
 go_enter Tryz.func104,Tryz.ntmps104
 go_wp2_with fail
 refine hbits.mono ?_
 rintro e w1 ⟨x,_,rfl,b1,rfl,ho⟩
 have hBw:B≤w.heap.size:=by omega
 have hR1:=hR.out.add (i:=(23,0)) (r':=rowV 272 x (wordsV (wordsB (setOf n xs)))) b1 (ho.mono hBw) (fun k hk=>(ho.lt k hk).1)
 have hb1:=(hb.out.below b1).congr (f':=upd f (23,0) (some (rowV 272 x (wordsV (wordsB (setOf n xs)))))) (fun i hi=>upd_ne _ _ (by intro e; subst e; rcases hi with q | q | q<;>cases q))
 have hput:=put_new hR1 hb1 x (setOf n xs) (upd_same _ _ _) (setOf_len _ _) hm h1 hn h4
 obtain ⟨xa,xn,xc,rfl⟩:=ho.shape
 replace ho:=Hd ho
 replace hR1:=Hd hR1
 replace hb1:=Hd hb1
 go_wp2_with fail
 refine hput.mono ?_
 rintro e w2 ⟨rfl,b2,f2,sv2,hR2,hb2,o2⟩
 have hfin:PutPost B f g b n sets svs (.slice xa xn xc) (setOf n xs) sets.length w (.returned (.tuple #[.int .i64 (sets.length:Nat),.bool true,.nilIface])) w2 :=
  ⟨rfl,(b1.mono hBw).trans b2,f2,sv2,hR2,hb2,fun j a1 a2 a3 a4=>by rw [o2 j a1 a2 a3 a4,upd_ne _ _ (by intro e; exact a4 (by rw [e]))]⟩
 replace hfin:=Hd hfin
 clear hR2 hb2 o2
 go_wp2
 go_ret3
 exact ⟨_,hfin.out⟩
end Go.Proofs.YtncpnaoabkjegaaGreatDoor
namespace Go.Proofs.YtncpnaoabkjegaaGreatDoor
open Go.RowKit
set_option maxRecDepth 100000
theorem bag_Len (g:Nat) (sv:Value) (svs:List Value) (w:World) (c1:w.cell? ⟨g,1,none⟩=some sv) (h:ValsAt w sv svs) :
 Calls Tryz.prog 105 #[.pointer (some ⟨g,0,none⟩)] w fun e w'=>e=.returned (.int .i64 (svs.length:Nat))∧w=w':=by
 have l1:=h.len oneSets
 obtain ⟨va,vn,vc,rfl⟩:∃ a n c,sv=.slice a n c:=(by obtain ⟨a,c,e,_⟩:=h; exact ⟨a,_,c,e⟩)
 replace h:=Hd h
 go_enter Tryz.func105,Tryz.ntmps105
 go_wp2
 go_ret
 exact ⟨rfl,rfl⟩
def NewPost (B:Nat) (f:Names) (n:Nat) (w:World) (e:Ending) (w':World):Prop :=
 ∃ g,e=.returned (.tuple #[.pointer (some ⟨g,0,none⟩),.nilIface])∧Below w.heap.size w w'∧w.heap.size≤g∧∃ b f',Rows B w' f'∧BagAt B w' f' g b n [] (.slice none 0 0) []∧∀ j:Nat×Nat,j.1≠20→j.1≠21→f' j=f j
theorem bag_New (B:Nat) (f:Names) (n:Nat) (w:World) (hR:Rows B w f) (hB:B≤w.heap.size) (hn:n≤8192) :
 Calls Tryz.prog 103 #[.int .i64 n] w (NewPost B f n w):=by
 have d1:decide ((n:Int)<0)=false:=decide_eq_false (by omega)
 have d2:decide ((n:Int)>8192)=false:=decide_eq_false (by omega)
 have hR1:=hR.below (belowAlloc w (.map #[] 0))
 have hR2:=hR1.add (i:=(20,0)) (r':=box3 232 (w.heap.size+1) [.int .i64 n,.slice none 0 0,.map (some w.heap.size)]) (belowAlloc _ (.cells #[.int .i64 n,.slice none 0 0,.map (some w.heap.size)] 232))
  (by
    have:=World.ownsRow_lit (base:=B) (e:=232) (size:=3) (w.alloc (.map #[] 0)) #[.int .i64 n,.slice none 0 0,.map (some w.heap.size)] 1 (by simp; omega) (by decide) rfl
    unfold Row.own
    simpa using this) (fun k hk=>by cases hk; simp)
 have hR3:=hR2.add (i:=(21,0)) (r':=rowV 233 (.slice none 0 0) []) (Below.refl _ _) (OwnV.nil _ _ _) (fun k hk=>by cases hk)
 have hm:=(BagMap.made w n).below (belowAlloc _ (.cells #[.int .i64 n,.slice none 0 0,.map (some w.heap.size)] 232))
 have hfin:NewPost B f n w (.returned (.tuple #[.pointer (some ⟨w.heap.size+1,0,none⟩),.nilIface])) ((w.alloc (.map #[] 0)).alloc (.cells #[.int .i64 n,.slice none 0 0,.map (some w.heap.size)] 232)):=by
  refine ⟨_,rfl,Below.step (belowAlloc w _) (belowAlloc _ _),Nat.le_succ _,w.heap.size,_,hR3,⟨?_,upd_same _ _ _,rfl,fun i hi=>absurd hi (Nat.not_lt_zero _),fun x hx=>(by cases hx),hm,hB⟩,fun j h1 h2=>?_⟩
  ·rw [upd_ne _ _ (by intro e; cases e),upd_same]
  ·rw [upd_ne _ _ (by intro e; exact h2 (by rw [e])),upd_ne _ _ (by intro e; exact h1 (by rw [e]))]
 have mkm:(Instr.makeMap 229 none).run Tryz.prog w=.ok (.map (some w.heap.size)) (w.alloc (.map #[] 0)):=rfl
 replace hfin:=Hd hfin
 clear hR1 hR2 hR3 hm
 go_enter Tryz.func103,Tryz.ntmps103
 go_wp2
 go_ret2
 exact hfin.out
end Go.Proofs.YtncpnaoabkjegaaGreatDoor
namespace Go.Proofs.YtncpnaoabkjegaaGreatDoor
def behU (K N:Nat) (T:List Int) (u:Nat) (s:Int) (t:Nat):List Nat:=((List.range t).filter fun c=>decide (T.getD (u*K+c) 0=s)).map fun c=>(u*K+c)%N
theorem behU_zero (K N:Nat) (T:List Int) (u:Nat) (s:Int):behU K N T u s 0=[]:=rfl
theorem behU_succ (K N:Nat) (T:List Int) (u:Nat) (s:Int) (t:Nat):behU K N T u s (t+1)=behU K N T u s t++if T.getD (u*K+t) 0=s then [(u*K+t)%N] else []:=by
 unfold behU
 rw [List.range_succ,List.filter_append,List.map_append]
 congr 1
 by_cases h:T.getD (u*K+t) 0=s
 ·rw [if_pos h,List.filter_cons,if_pos (decide_eq_true h)]; rfl
 ·rw [if_neg h,List.filter_cons,if_neg (by rw [decide_eq_false h]; decide)]; rfl
def behM (K N:Nat) (T:List Int) (us:List Nat) (s:Int):List Nat:=us.flatMap fun u=>behU K N T u s K
theorem behM_snoc (K N:Nat) (T:List Int) (us:List Nat) (u:Nat) (s:Int):behM K N T (us++[u]) s=behM K N T us s++behU K N T u s K:=by simp [behM]
theorem mem_behM {K N:Nat} {T:List Int} {us:List Nat} {s:Int} {v:Nat}:v∈behM K N T us s↔∃ u∈us,∃ c,c<K∧(u*K+c)%N=v∧T.getD (u*K+c) 0=s:=by
 unfold behM behU
 simp only [List.mem_flatMap,List.mem_map,List.mem_filter,List.mem_range,decide_eq_true_eq]
 constructor
 ·rintro ⟨u,hu,c,⟨hc,h2⟩,h3⟩; exact ⟨u,hu,c,hc,h3,h2⟩
 ·rintro ⟨u,hu,c,hc,h3,h2⟩; exact ⟨u,hu,c,⟨hc,h2⟩,h3⟩
theorem mem_memB {l:List Bool} {n u:Nat}:u∈memB l n↔u<n∧l.getD u false=true:=by
 unfold memB
 rw [List.mem_filter,List.mem_range]
theorem behM_lt {K N:Nat} {T:List Int} {us:List Nat} {s:Int} (hN:0<N):∀ v∈behM K N T us s,v<N:=fun v hv=>by
 obtain ⟨u,_,c,_,e,_⟩:=mem_behM.1 hv
 rw [← e]; exact Nat.mod_lt _ hN
theorem setOf_beh {K N:Nat} {T:List Int} {l:List Bool} {s:Int}:setOf N (behM K N T (memB l N) s)=behB K N T l s:=by
 refine List.ext_getElem (by rw [setOf_len,behB_len]) fun v h1 h2=>?_
 have h3:v<N:=by rw [setOf_len] at h1; exact h1
 have e1:=setOf_get (n:=N) (xs:=behM K N T (memB l N) s) h3
 rw [List.getD_eq_getElem?_getD,List.getElem?_eq_getElem h1,Option.getD_some] at e1
 rw [e1]
 have hi:=behB_iff (K:=K) (T:=T) (l:=l) (s:=s) h3
 rw [List.getD_eq_getElem?_getD,List.getElem?_eq_getElem h2,Option.getD_some] at hi
 have hm:v∈behM K N T (memB l N) s↔(behB K N T l s)[v]=true:=by
  rw [hi,mem_behM]
  constructor
  ·rintro ⟨u,hu,c,hc,a,b⟩
   obtain ⟨p,q⟩:=mem_memB.1 hu
   exact ⟨u,p,q,c,hc,a,b⟩
  ·rintro ⟨u,p,q,c,hc,a,b⟩
   exact ⟨u,mem_memB.2 ⟨p,q⟩,c,hc,a,b⟩
 by_cases hv:v∈behM K N T (memB l N) s
 ·rw [decide_eq_true hv]; exact (hm.1 hv).symm
 ·rw [decide_eq_false hv]
  cases hb:(behB K N T l s)[v] with
  | false=>rfl
  | true=>exact absurd (hm.2 hb) hv
theorem beh_nil {K N:Nat} {T:List Int} {l:List Bool} {s:Int} (hN:0<N):behM K N T (memB l N) s=[]↔(behB K N T l s).any id=false:=by
 constructor
 ·intro h
  have e:=setOf_beh (K:=K) (N:=N) (T:=T) (l:=l) (s:=s)
  rw [h] at e
  rw [← e]
  show (List.replicate N false).any id=false
  rw [List.any_eq_false]
  intro x hx
  rw [List.eq_of_mem_replicate hx]; decide
 ·intro h
  apply List.eq_nil_iff_forall_not_mem.2
  intro v hv
  have hlt:=behM_lt hN v hv
  have e1:=setOf_get (n:=N) (xs:=behM K N T (memB l N) s) hlt
  rw [setOf_beh,decide_eq_true hv] at e1
  have:=(any_iff (behB_len K N T l s)).2 ⟨v,hlt,e1⟩
  rw [h] at this; cases this
open Go.RowKit
set_option maxRecDepth 100000
abbrev box7 (T:TypeId) (g:Nat) (cs:List Value):Row:=⟨T,7,.slice (some ⟨g,0,none⟩) 1 1,1,cs⟩
structure ListsIn (f:Names) (p:Nat) (v:Value) (vs:List Value) (xs:List (List Int)):Prop where
 out:f (p,0)=some (rowV 22 v vs)
 len:vs.length=xs.length
 each:∀ i,i<xs.length→f (p+1,i)=some (rowI (vs.getD i .nilIface) (xs.getD i []))
theorem ListsIn.congr {f f':Names} {p:Nat} {v:Value} {vs:List Value} {xs:List (List Int)} (h:ListsIn f p v vs xs) (e:∀ i:Nat×Nat,(i.1=p∨i.1=p+1)→f' i=f i):ListsIn f' p v vs xs :=
 ⟨(e _ (.inl rfl)).trans h.out,h.len,fun i hi=>(e _ (.inr rfl)).trans (h.each i hi)⟩
structure WalkAt (B:Nat) (w:World) (f:Names) (g gb b K R n:Nat) (tv:Value) (stop:Bool) (sets:List (List Bool)) (words next:List (List Int)) (sv:Value) (svs:List Value) (wv:Value) (wvs:List Value) (nv:Value) (nvs:List Value):Prop where
 box:f (30,0)=some (box7 78 g [.int .i64 K,.int .i64 R,tv,.pointer (some ⟨gb,0,none⟩),nv,wv,.bool stop])
 bag:BagAt B w f gb b n sets sv svs
 words:ListsIn f 31 wv wvs words
 next:ListsIn f 33 nv nvs next
section
variable {B:Nat} {w:World} {f:Names} {g gb b K R n:Nat} {tv:Value} {stop:Bool} {sets:List (List Bool)} {words next:List (List Int)} {sv:Value} {svs:List Value} {wv:Value} {wvs:List Value} {nv:Value} {nvs:List Value}
theorem WalkAt.cell (h:WalkAt B w f g gb b K R n tv stop sets words next sv svs wv wvs nv nvs) (hR:Rows B w f) (k:Nat) (hk:k<7):w.cell? ⟨g,k,none⟩=[Value.int .i64 K,.int .i64 R,tv,.pointer (some ⟨gb,0,none⟩),nv,wv,.bool stop][k]? :=
 hR.cell h.box (g:=g) (cap:=1) rfl k (show k<1*7 by omega)
theorem WalkAt.frz (h:WalkAt B w f g gb b K R n tv stop sets words next sv svs wv wvs nv nvs) (hR:Rows B w f) (k:Nat):w.frozen? ⟨g,k,none⟩=false:=hR.frozen h.box (g:=g) (cap:=1) rfl k
theorem WalkAt.low (h:WalkAt B w f g gb b K R n tv stop sets words next sv svs wv wvs nv nvs) (hR:Rows B w f):B≤g∧g<w.heap.size:=hR.lt h.box g rfl
theorem WalkAt.below {w':World} (h:WalkAt B w f g gb b K R n tv stop sets words next sv svs wv wvs nv nvs) (hb:Below w.heap.size w w'):WalkAt B w' f g gb b K R n tv stop sets words next sv svs wv wvs nv nvs :=
 ⟨h.box,h.bag.below hb,h.words,h.next⟩
end
end Go.Proofs.YtncpnaoabkjegaaGreatDoor
namespace Go.Proofs.YtncpnaoabkjegaaGreatDoor
section
variable {P:Program} {ops:Array Oper} {Q:Exit→Act→World→Prop} {md:Region.Mode} {S:World→Prop}
def wpAnyT (P:Program) (md:Region.Mode) (ops:Array Oper) (Q:Exit→Act→World→Prop) (S:World→Prop) (n:Nat):Nat→Array Bool→Act→World→Prop
 | 0,listed,a,w=>Region.ready md ops listed=[]∧Q .normal a w
 | fuel+1,listed,a,w =>
  (Region.ready md ops listed=[]→Q .normal a w) ∧
  ∀ i∈Region.ready md ops listed,wpOp P ops Q i (fun a' w'=>(i<n→S w')∧wpAnyT P md ops Q S n fuel (listed.setIfInBounds i true) a' w') a w
theorem wpAny_of_T {n:Nat}:∀ (fuel:Nat) (listed:Array Bool) (a:Act) (w:World),wpAnyT P md ops Q S n fuel listed a w→wpAny P md ops Q fuel listed a w
 | 0,_,_,_,h=>h
 | fuel+1,_,_,_,h=>⟨h.1,fun i hi=>wpOp_mono (fun a' w' h'=>wpAny_of_T fuel _ a' w' h'.2) (h.2 i hi)⟩
theorem wpAnyT_of {n:Nat}:∀ (fuel:Nat) (listed:Array Bool) (a:Act) (w:World),(∀ j,j<n→listed.getD j true=true)→wpAny P md ops Q fuel listed a w→wpAnyT P md ops Q S n fuel listed a w
 | 0,_,_,_,_,h=>h
 | fuel+1,listed,a,w,hl,h=>⟨h.1,fun i hi=>wpOp_mono (fun a' w' h'=>⟨fun hin=>Bool.noConfusion ((hl i hin).symm.trans (mem_ready.1 hi).1),wpAnyT_of fuel _ a' w' (fun j hj=>by
  by_cases hij:i=j
  ·subst hij
   rcases Nat.lt_or_ge i listed.size with h2 | h2
   ·simp [h2]
   ·rw [Array.getD_eq_getD_getElem?,Array.getElem?_eq_none (by simpa using h2)]; rfl
  ·rw [getD_set_ne true hij]; exact hl j hj) h'⟩) (h.2 i hi)⟩
theorem wpAnyT_first {n i:Nat} {oi:Oper} {v:Value} (hi:ops[i]?=some oi) (hsel:∀ (j:Nat) (o:Oper) cs b,ops[j]?=some o→o.op≠.select cs b)
 (hs:Region.sinkB md ops n=true) (hc:Region.chainB md ops n=true) (hn:n<ops.size) (hin:i<n)
 (hQ:∀ c a w,Q (.panic c) (a.put oi.dst v) w→Q (.panic c) a w) :
 ∀ (fuel:Nat) (listed:Array Bool) (a:Act) (w:World),HeadInv md ops n listed →
  (∀ j oj,ops[j]?=some oj→j≠i→listed.getD j true=false→(∀ e∈oj.after,Region.binds md e=true→e.on≠i)→oi.apart ops oj=true) →
  i∈Region.ready md ops listed→YieldsIf P ops S oi v a→S w →
  wpAnyT P md ops Q S n fuel (listed.setIfInBounds i true) (a.put oi.dst v) w→wpAnyT P md ops Q S n (fuel+1) listed a w:=by
 intro fuel
 induction fuel with
 | zero =>
  intro listed a w inv _ hr hy hS H
  refine ⟨fun h=>(by rw [h] at hr; cases hr),fun j hj=>?_⟩
  by_cases hji:j=i
  ·subst hji; exact hy.wpOp hi hS ⟨fun _=>hS,H⟩
  ·have:=ready_mono hj hji
   rw [H.1] at this
   cases this
 | succ fuel ih =>
  intro listed a w inv hfree hr hy hS H
  have hun:=(mem_ready.1 hr).1
  refine ⟨fun h=>(by rw [h] at hr; cases hr),fun j hj=>?_⟩
  have hjn:j<n:=by
   rcases Nat.lt_or_ge j n with h | h
   ·exact h
   ·exact absurd hj (tail_waits hs hc hn inv _ i rfl hin hun j h)
  by_cases hji:j=i
  ·subst hji; exact hy.wpOp hi hS ⟨fun _=>hS,H⟩
  ·have h1:=H.2 j (ready_mono hj hji)
   obtain ⟨hjun,oj,hoj,hall⟩:=mem_ready.1 hj
   have hnot:∀ e∈oj.after,Region.binds md e=true→e.on≠i:=fun e he hb heq=>by
    have h1:=hall e he hb
    rw [heq,getD_both hun] at h1
    cases h1
   have h2:=wpOp_putIf hoj (hfree j oj hoj hji hjun hnot) (fun cs b=>hsel i oi cs b hi) (fun cs b=>hsel j oj cs b hoj) hQ hy h1
   have hfree':∀ k ok,ops[k]?=some ok→k≠i→(listed.setIfInBounds j true).getD k true=false →
    (∀ e∈ok.after,Region.binds md e=true→e.on≠i)→oi.apart ops ok=true:=fun k ok hk hki hun hno=>by
    refine hfree k ok hk hki ?_ hno
    by_cases hjk:j=k
    ·subst hjk; exact hjun
    ·rw [getD_set_ne true hjk] at hun; exact hun
   refine wpOp_mono (fun a' w' h3=>⟨fun _=>h3.2.1 hjn,ih (listed.setIfInBounds j true) a' w' (inv.set hj hjn) hfree' (ready_mono hr (Ne.symm hji)) h3.1 (h3.2.1 hjn) ?_⟩) h2
   rw [Array.setIfInBounds_comm _ _ hji]
   exact h3.2.2
def wpHead (P:Program) (ops:Array Oper) (Q:Exit→Act→World→Prop) (S:World→Prop) (K:Act→World→Prop):List (Nat×Bool)→Act→World→Prop
 | [],a,w=>K a w
 | (k,true)::l,a,w=>∃ o v,ops[k]?=some o∧YieldsIf P ops S o v a∧S w∧wpHead P ops Q S K l (a.put o.dst v) w
 | (k,false)::l,a,w=>wpOp P ops Q k (fun a' w'=>S w'∧wpHead P ops Q S K l a' w') a w
def planB (md:Region.Mode) (ops:Array Oper) (n:Nat):List (Nat×Bool)→Array Bool→Bool
 | [],listed=>(List.range n).all (fun j=>listed.getD j true)&&Region.seqB md ops (ops.size-n) n listed
 | (k,true)::l,listed=>decide (k<n)&&(Region.ready md ops listed).contains k&&Region.free md ops listed k&&planB md ops n l (listed.setIfInBounds k true)
 | (k,false)::l,listed=>decide (k<n)&&decide (Region.ready md ops listed=[k])&&planB md ops n l (listed.setIfInBounds k true)
theorem wpAnyT_plan {n:Nat} {ol:List Oper} (hol:ops=ol.toArray) (hsel:Region.noSelect ops=true) (hs:Region.sinkB md ops n=true) (hc:Region.chainB md ops n=true) (hn:n<ops.size)
 (hQ:∀ c a w,Q (.panic c) a w→False) :
 ∀ (l:List (Nat×Bool)) (listed:Array Bool) (a:Act) (w:World),HeadInv md ops n listed→planB md ops n l listed=true →
  wpHead P ops Q S (fun a' w'=>wpList P ops Q (ol.drop n) a' w') l a w→wpAnyT P md ops Q S n (l.length+(ops.size-n)) listed a w
 | [],listed,a,w,inv,hB,h=>by
  simp only [planB,Bool.and_eq_true] at hB
  have hl:∀ j,j<n→listed.getD j true=true:=fun j hj=>List.all_eq_true.1 hB.1 j (List.mem_range.2 hj)
  rw [List.length_nil,Nat.zero_add]
  refine wpAnyT_of _ _ _ _ hl ?_
  have hdl:(ol.drop n).length=ops.size-n:=by subst hol; simp
  rw [← hdl]
  refine wpAny_of_seq (ol.drop n) n listed a w (fun j=>by subst hol; simp) ?_ h
  rw [hdl]; exact hB.2
 | (k,true)::l,listed,a,w,inv,hB,h=>by
  simp only [planB,Bool.and_eq_true,decide_eq_true_eq] at hB
  obtain ⟨⟨⟨hkn,hr⟩,hf⟩,hB'⟩:=hB
  obtain ⟨o,v,ho,hy,hS,h'⟩:=h
  have hr':k∈Region.ready md ops listed:=by simpa using hr
  rw [show ((k,true)::l).length+(ops.size-n)=(l.length+(ops.size-n))+1 by simp; omega]
  exact wpAnyT_first ho (Region.noSelect_spec hsel) hs hc hn hkn (fun c a w h=>(hQ c _ w h).elim) _ listed a w inv (Region.free_spec ho hf) hr' hy hS
   (wpAnyT_plan hol hsel hs hc hn hQ l _ _ _ (inv.set hr' hkn) hB' h')
 | (k,false)::l,listed,a,w,inv,hB,h=>by
  simp only [planB,Bool.and_eq_true,decide_eq_true_eq] at hB
  obtain ⟨⟨hkn,hr⟩,hB'⟩:=hB
  rw [show ((k,false)::l).length+(ops.size-n)=(l.length+(ops.size-n))+1 by simp; omega]
  refine ⟨fun h0=>(by rw [h0] at hr; cases hr),fun i hi=>?_⟩
  have hi':=hi
  rw [hr] at hi'
  obtain rfl:i=k:=by simpa using hi'
  exact wpOp_mono (fun a' w' h3=>⟨fun _=>h3.1,wpAnyT_plan hol hsel hs hc hn hQ l _ a' w' (inv.set hi hkn) hB' h3.2⟩) h
def tailB (md:Region.Mode) (ops:Array Oper) (n:Nat) (plan:List (Nat×Bool)):Bool :=
 Region.noSelect ops&&decide (n<ops.size)&&Region.sinkB md ops n&&Region.chainB md ops n&&decide (plan.length=n)&&planB md ops n plan (Array.replicate ops.size false)
theorem wp_region_plan {id:Nat} {a:Act} {w:World} {l:List Oper} (S:World→Prop) (n:Nat) (plan:List (Nat×Bool)) (hm:P.follows .mixedOrders=true) (hB:tailB .any l.toArray n plan=true)
 (h:wpHead P l.toArray (NoPanic Q) S (fun a' w'=>wpList P l.toArray (NoPanic Q) (l.drop n) a' w') plan a w.drew):(Code.region id l.toArray true).wp P Q a w:=by
 simp only [tailB,Bool.and_eq_true,decide_eq_true_eq] at hB
 obtain ⟨⟨⟨⟨⟨hsel,hn⟩,hs⟩,hc⟩,hlen⟩,hp⟩:=hB
 refine wp_region_noPanic ?_
 refine wp_region_any hm ?_
 have inv0:HeadInv .any l.toArray n (Array.replicate l.toArray.size false) :=
  ⟨by simp,fun j oj _ hl=>(by rw [getD_replicate_false] at hl; cases hl),fun t _ ht=>getD_in (by simpa using ht) (getD_replicate_false _ _)⟩
 have:=wpAnyT_plan (md:=.any) (Q:=NoPanic Q) (S:=S) rfl hsel hs hc hn (fun _ _ _ h=>h) plan _ a _ inv0 hp h
 rw [hlen,show n+(l.toArray.size-n)=l.toArray.size by omega] at this
 exact wpAny_of_T _ _ _ _ this
theorem headY {K:Act→World→Prop} {k:Nat} {o:Oper} {v:Value} {l:List (Nat×Bool)} {a:Act} {w:World} (d:Option Tmp) (ho:ops[k]?=some o) (hd:o.dst=d)
 (hy:YieldsIf P ops S o v a) (hS:S w) (h:wpHead P ops Q S K l (a.put d v) w):wpHead P ops Q S K ((k,true)::l) a w:=by
 subst hd; exact ⟨o,v,ho,hy,hS,h⟩
theorem headC {K:Act→World→Prop} {k:Nat} {o:Oper} {l:List (Nat×Bool)} {a:Act} {w:World} (ho:ops[k]?=some o)
 (h:∀ K':Act→World→Prop,(∀ a w,S w→wpHead P ops Q S K l a w→K' a w)→if Region.wanted o (yielded ops a.tmps)=true then Oper.wp P o a w K' Q else K' (a.put o.dst undef) w) :
 wpHead P ops Q S K ((k,false)::l) a w:=by
 show wpOp _ _ _ _ _ _ _
 unfold wpOp
 simp only [ho]
 have:=h (fun a' w'=>S w'∧wpHead P ops Q S K l a' w') (fun a w h1 h2=>⟨h1,h2⟩)
 split
 ·rename_i hw; rw [if_pos hw] at this; exact .inl this
 ·rename_i hw; rw [if_neg hw] at this; exact this
theorem head0 {K:Act→World→Prop} {a:Act} {w:World} (h:K a w):wpHead P ops Q S K [] a w:=h
end
section
variable {P:Program} {ops:Array Oper} {Q:Exit→Act→World→Prop} {S:World→Prop}
theorem pqY {K:Act→World→Prop} {k:Nat} {o:Oper} {v:Value} {l:List (Nat×Bool)} {a a':Act} {w:World} (d:Tmp) (hS:S w) (h:wpHead P ops Q S K l a' w) (ho:ops[k]?=some o:=by exact rfl) (hd:o.dst=some d:=by exact rfl)
 (hw:Region.wanted o (yielded ops a.tmps)=true:=by rfl) (hy:∀ W,S W→(execOp a.eval o).run P W=.ok (.value v) W:=by intro W' hs; (try subst hs); go_simp; (try with_reducible rfl)) (ha:a.put (some d) v=a':=by simp only [pq]; exact rfl) :
 wpHead P ops Q S K ((k,true)::l) a w:=by
 subst ha; exact headY (some d) ho hd (.inl ⟨hw,hy⟩) hS h
theorem pqN {K:Act→World→Prop} {k:Nat} {o:Oper} {l:List (Nat×Bool)} {a a':Act} {w:World} (d:Tmp) (hS:S w) (h:wpHead P ops Q S K l a' w) (ho:ops[k]?=some o:=by exact rfl) (hd:o.dst=some d:=by exact rfl)
 (hw:Region.wanted o (yielded ops a.tmps)=false:=by rfl) (ha:a.put (some d) undef=a':=by simp only [pq]; exact rfl):wpHead P ops Q S K ((k,true)::l) a w:=by
 subst ha; exact headY (some d) ho hd (.inr ⟨hw,rfl⟩) hS h
end
open Go.RowKit
set_option maxRecDepth 100000
set_option maxHeartbeats 8000000
theorem smallP_small {K R:Nat} {T:List Int} (h:RuleOk K R T) (hl:T.length≤256):smallP K R T=none:=by rw [smallP_ok h,if_neg (by omega)]
theorem over_Nodes (r:Nat→Addr) (K R:Nat) (va:Option Addr) (vn vc:Nat) (T:List Int) (w:World) (hg:Glob r w) (h:IntsAt w (.slice va vn vc) T) (hok:RuleOk K R T) (hl:T.length≤256) :
 Calls Tryz.prog 101 #[.agg #[.int .i64 K,.int .i64 R,.slice va vn vc]] w (Ret2 (fun x y _=>x=.int .i64 ((T.length/K:Nat):Int)∧y=.nilIface) w):=by
 have b0:=belowAlloc w (.cells #[.int .i64 K,.int .i64 R,.slice va vn vc] 24)
 have q:Box3 (w.alloc (.cells #[.int .i64 K,.int .i64 R,.slice va vn vc] 24)) w.heap.size (.int .i64 K) (.int .i64 R) (.slice va vn vc):=by simp [Box3,go_sem]
 have hs:=smallP_small hok hl
 have hk1:=hok.k1
 generalize hN:T.length/K=N
 replace hN:=Hd hN
 replace hs:=Hd hs
 replace hg:=Hd (hg.below b0)
 replace h:=Hd (h.below b0)
 go_enter Tryz.func101,Tryz.ntmps101
 go_wp2_with fail
 refine (over_small r K R va vn vc T _ hg.out h.out).mono ?_
 rintro e w1 ⟨x,rfl,b1,he⟩
 rw [hs.out] at he
 obtain rfl:=ErrIs.none_eq he
 obtain ⟨⟨z0,z1,z2⟩,-,-,-⟩:=q.below b1
 go_wp2_with fail
 refine (over_nodes K R va vn vc T _ (h.out.below b1) hk1 (by omega)).mono ?_
 rintro e w2 ⟨rfl,rfl⟩
 rw [hN.out]
 go_wp2
 go_ret2
 exact ⟨_,_,rfl,Below.step b0 (Below.step b1 (belowAlloc _ _)),rfl,rfl⟩
theorem over_Edge (r:Nat→Addr) (K R:Nat) (va:Option Addr) (vn vc:Nat) (T:List Int) (u s:Nat) (w:World) (hg:Glob r w) (h:IntsAt w (.slice va vn vc) T) (hok:RuleOk K R T) (hl:T.length≤256) (hu:u<T.length/K) (hs:s<K) :
 Calls Tryz.prog 121 #[.agg #[.int .i64 K,.int .i64 R,.slice va vn vc],.int .i64 u,.int .i64 s] w (Ret3 (fun x y z _=>x=.int .i64 (toN K (T.length/K) u s)∧y=.int .i64 (labN K T u s)∧z=.nilIface) w):=by
 have b0:=belowAlloc w (.cells #[.int .i64 K,.int .i64 R,.slice va vn vc] 24)
 have q:Box3 (w.alloc (.cells #[.int .i64 K,.int .i64 R,.slice va vn vc] 24)) w.heap.size (.int .i64 K) (.int .i64 R) (.slice va vn vc):=by simp [Box3,go_sem]
 have hsm:=smallP_small hok hl
 have hk1:=hok.k1
 have hk4:=hok.k4
 have hul:u*K+s<T.length:=by
  have:=Nat.div_mul_le_self T.length K
  have:=mul_add_lt (q:=u) (m:=T.length/K) hs hu
  omega
 have hN0:T.length/K≤256:=Nat.le_trans (Nat.div_le_self _ _) hl
 have huK:u*K≤256:=by omega
 obtain ⟨p,hp⟩:∃ n,u*K=n:=⟨_,rfl⟩
 have hM:(u:Int)*(K:Int)=(p:Int):=by rw [← hp]; simp
 obtain ⟨at_,hat⟩:∃ n,u*K+s=n:=⟨_,rfl⟩
 have hA:(p:Int)+(s:Int)=(at_:Int):=by rw [← hat,hp]; simp
 have i1:=fun w'=>h.idx at_ (by omega) w'
 have c1:=h.cellD at_ (by omega)
 generalize valAt (.slice va vn vc) at_=ta at *
 have hb1:=h.below b0
 have e1:labN K T u s=T.getD at_ 0:=by unfold labN; rw [hat]
 have e2:toN K (T.length/K) u s=at_%(T.length/K):=by unfold toN; rw [hat]
 rw [e1,e2]
 generalize T.getD at_ 0=y at *
 obtain ⟨N,hN⟩:∃ N,T.length/K=N:=⟨_,rfl⟩
 rw [hN] at hu hN0 ⊢
 have hN1:¬ (N:Int)=0:=by omega
 have hN2:((N:Int)==0)=false:=by rw [beq_eq_false_iff_ne]; omega
 have hN3:(0:Int)<N:=by omega
 have hN4:¬ N=0:=by omega
 have hrem:(at_:Int).tmod (N:Int)=((at_%N:Nat):Int):=by rw [Int.tmod_eq_emod_of_nonneg (by omega)]; simp
 have hat1:at_≤256:=by omega
 rw [hat] at hul
 rw [hp] at huK hat
 have hps:(p:Int)+(s:Int)≤256:=by omega
 clear hat hp
 have c1':=(b0.cell (World.block_lt_of_cell? _ _ c1)).trans c1
 replace hN:=Hd hN
 replace hsm:=Hd hsm
 replace hg:=Hd (hg.below b0)
 replace h:=Hd hb1
 clear c1 e1 e2 hb1
 go_enter Tryz.func121,Tryz.ntmps121
 go_wp2_with fail
 refine (over_small r K R va vn vc T _ hg.out h.out).mono ?_
 rintro e w1 ⟨x,rfl,b1,he⟩
 rw [hsm.out] at he
 obtain rfl:=ErrIs.none_eq he
 have q1:=q.below b1
 obtain ⟨⟨z0,z1,z2⟩,-,-,-⟩:=q1
 have q1:=Hd (q.below b1)
 go_wp2_with fail
 refine (over_nodes K R va vn vc T _ (h.out.below b1) hk1 (by omega)).mono ?_
 rintro e w2 ⟨rfl,rfl⟩
 rw [hN.out]
 have b2:=Below.step b1 (belowAlloc w1 (.cells #[.int .i64 K,.int .i64 R,.slice va vn vc] 24))
 obtain ⟨W2,hW2⟩:∃ W2:World,W2=w1.alloc (.cells #[.int .i64 K,.int .i64 R,.slice va vn vc] 24):=⟨_,rfl⟩
 rw [← hW2] at b2 ⊢
 have q2:=q.below b2
 have hT2:=h.out.below b2
 have cT2:=(b2.cell (World.block_lt_of_cell? _ _ c1')).trans c1'
 clear hW2 z0 z1 z2 c1'
 obtain ⟨⟨z0,z1,z2⟩,-,-,-⟩:=q2
 replace hT2:=Hd hT2
 go_upto_region 9 with fail
 refine wp_region_plan (fun w'=>w'.cell? ⟨w.heap.size,0,none⟩=some (.int .i64 K)∧w'.cell? ⟨w.heap.size,1,none⟩=some (.int .i64 R)∧w'.cell? ⟨w.heap.size,2,none⟩=some (.slice va vn vc)∧w'.cell? ta=some (.int .i64 y)) 11 [(0,true),(1,true),(4,true),(5,true),(6,true),(7,true),(8,true),(2,false),(3,true),(9,true),(10,true)] (by kernel_rfl) (by kernel_rfl) ?_
 have hS:W2.drew.cell? ⟨w.heap.size,0,none⟩=some (.int .i64 K)∧W2.drew.cell? ⟨w.heap.size,1,none⟩=some (.int .i64 R)∧W2.drew.cell? ⟨w.heap.size,2,none⟩=some (.slice va vn vc)∧W2.drew.cell? ta=some (.int .i64 y):=⟨z0,z1,z2,cT2⟩
 refine pqY 42 hS ?_
 refine pqY 43 hS ?_
 refine pqY 46 hS ?_
 refine pqY 47 hS ?_
 refine pqY 48 hS ?_
 refine pqY 49 hS ?_
 refine pqY 50 hS ?_
 refine headC rfl (fun KK hK=>?_)
 go_simp
 refine (over_nodes K R va vn vc T _ hT2.out.drew hk1 (by omega)).mono ?_
 rintro e W3 ⟨rfl,rfl⟩
 rw [hN.out]
 have b3:=belowAlloc W2.drew (.cells #[.int .i64 K,.int .i64 R,.slice va vn vc] 24)
 have hS3:=(⟨cell_keep b3 hS.1,cell_keep b3 hS.2.1,cell_keep b3 hS.2.2.1,(b3.cell (World.block_lt_of_cell? _ _ hS.2.2.2)).trans hS.2.2.2⟩:(W2.drew.alloc (.cells #[.int .i64 K,.int .i64 R,.slice va vn vc] 24)).cell? ⟨w.heap.size,0,none⟩=some (.int .i64 K)∧(W2.drew.alloc (.cells #[.int .i64 K,.int .i64 R,.slice va vn vc] 24)).cell? ⟨w.heap.size,1,none⟩=some (.int .i64 R)∧(W2.drew.alloc (.cells #[.int .i64 K,.int .i64 R,.slice va vn vc] 24)).cell? ⟨w.heap.size,2,none⟩=some (.slice va vn vc)∧(W2.drew.alloc (.cells #[.int .i64 K,.int .i64 R,.slice va vn vc] 24)).cell? ta=some (.int .i64 y))
 refine hK _ _ hS3 ?_
 clear hK KK
 refine pqY 45 hS3 ?_
 refine pqY 6 hS3 ?_
 refine pqY 7 hS3 ?_
 refine head0 ?_
 simp only [List.drop_succ_cons,List.drop_zero]
 clear hS hS3
 go_wp2
 refine NoPanic.normal ?_
 go_wp2
 go_ret3
 exact ⟨_,_,_,rfl,Below.step b0 (Below.step b2 ((Below.refl _ _).drew.alloc (Nat.le_refl _) _)),rfl,rfl,rfl⟩
end Go.Proofs.YtncpnaoabkjegaaGreatDoor
namespace Go.Proofs.YtncpnaoabkjegaaGreatDoor
inductive PT where
 | nil
 | take (k:Nat) (t:PT)
 | one (k:Nat) (t:PT)
 | two (k:Nat) (t:PT) (j:Nat) (s:PT)
def PT.takes:List Nat→PT→PT
 | [],t=>t
 | k::l,t=>.take k (PT.takes l t)
section
variable {P:Program} {ops:Array Oper} {Q:Exit→Act→World→Prop} {md:Region.Mode} {S:World→Prop}
def wpTree (P:Program) (ops:Array Oper) (Q:Exit→Act→World→Prop) (S:World→Prop) (K:Act→World→Prop):PT→Act→World→Prop
 | .nil,a,w=>K a w
 | .take k t,a,w=>∃ o v,ops[k]?=some o∧YieldsIf P ops S o v a∧S w∧wpTree P ops Q S K t (a.put o.dst v) w
 | .one k t,a,w=>wpOp P ops Q k (fun a' w'=>S w'∧wpTree P ops Q S K t a' w') a w
 | .two k t j s,a,w=>wpOp P ops Q k (fun a' w'=>S w'∧wpTree P ops Q S K t a' w') a w∧wpOp P ops Q j (fun a' w'=>S w'∧wpTree P ops Q S K s a' w') a w
def PT.okB (md:Region.Mode) (ops:Array Oper) (n:Nat):PT→Nat→Array Bool→Bool
 | .nil,m,listed=>decide (m=0)&&(List.range n).all (fun j=>listed.getD j true)&&Region.seqB md ops (ops.size-n) n listed
 | .take k t,m,listed=>decide (0<m)&&decide (k<n)&&(Region.ready md ops listed).contains k&&Region.free md ops listed k&&PT.okB md ops n t (m-1) (listed.setIfInBounds k true)
 | .one k t,m,listed=>decide (0<m)&&decide (k<n)&&decide (Region.ready md ops listed=[k])&&PT.okB md ops n t (m-1) (listed.setIfInBounds k true)
 | .two k t j s,m,listed=>decide (0<m)&&decide (k<n)&&decide (j<n)&&decide (Region.ready md ops listed=[k,j])&&PT.okB md ops n t (m-1) (listed.setIfInBounds k true)&&PT.okB md ops n s (m-1) (listed.setIfInBounds j true)
theorem wpAnyT_tree {n:Nat} {ol:List Oper} (hol:ops=ol.toArray) (hsel:Region.noSelect ops=true) (hs:Region.sinkB md ops n=true) (hc:Region.chainB md ops n=true) (hn:n<ops.size)
 (hQ:∀ c a w,Q (.panic c) a w→False) :
 ∀ (l:PT) (m:Nat) (listed:Array Bool) (a:Act) (w:World),HeadInv md ops n listed→l.okB md ops n m listed=true →
  wpTree P ops Q S (fun a' w'=>wpList P ops Q (ol.drop n) a' w') l a w→wpAnyT P md ops Q S n (m+(ops.size-n)) listed a w
 | .nil,m,listed,a,w,inv,hB,h=>by
  simp only [PT.okB,Bool.and_eq_true,decide_eq_true_eq] at hB
  obtain ⟨⟨rfl,hB1⟩,hB2⟩:=hB
  have hl:∀ j,j<n→listed.getD j true=true:=fun j hj=>List.all_eq_true.1 hB1 j (List.mem_range.2 hj)
  rw [Nat.zero_add]
  refine wpAnyT_of _ _ _ _ hl ?_
  have hdl:(ol.drop n).length=ops.size-n:=by subst hol; simp
  rw [← hdl]
  refine wpAny_of_seq (ol.drop n) n listed a w (fun j=>by subst hol; simp) ?_ h
  rw [hdl]; exact hB2
 | .take k t,m,listed,a,w,inv,hB,h=>by
  simp only [PT.okB,Bool.and_eq_true,decide_eq_true_eq] at hB
  obtain ⟨⟨⟨⟨hm,hkn⟩,hr⟩,hf⟩,hB'⟩:=hB
  obtain ⟨o,v,ho,hy,hS,h'⟩:=h
  have hr':k∈Region.ready md ops listed:=by simpa using hr
  rw [show m+(ops.size-n)=(m-1+(ops.size-n))+1 by omega]
  exact wpAnyT_first ho (Region.noSelect_spec hsel) hs hc hn hkn (fun c a w h=>(hQ c _ w h).elim) _ listed a w inv (Region.free_spec ho hf) hr' hy hS
   (wpAnyT_tree hol hsel hs hc hn hQ t (m-1) _ _ _ (inv.set hr' hkn) hB' h')
 | .one k t,m,listed,a,w,inv,hB,h=>by
  simp only [PT.okB,Bool.and_eq_true,decide_eq_true_eq] at hB
  obtain ⟨⟨⟨hm,hkn⟩,hr⟩,hB'⟩:=hB
  rw [show m+(ops.size-n)=(m-1+(ops.size-n))+1 by omega]
  refine ⟨fun h0=>(by rw [h0] at hr; cases hr),fun i hi=>?_⟩
  have hi':=hi
  rw [hr] at hi'
  obtain rfl:i=k:=by simpa using hi'
  exact wpOp_mono (fun a' w' h3=>⟨fun _=>h3.1,wpAnyT_tree hol hsel hs hc hn hQ t (m-1) _ a' w' (inv.set hi hkn) hB' h3.2⟩) h
 | .two k t j s,m,listed,a,w,inv,hB,h=>by
  simp only [PT.okB,Bool.and_eq_true,decide_eq_true_eq] at hB
  obtain ⟨⟨⟨⟨⟨hm,hkn⟩,hjn⟩,hr⟩,hB1⟩,hB2⟩:=hB
  rw [show m+(ops.size-n)=(m-1+(ops.size-n))+1 by omega]
  refine ⟨fun h0=>(by rw [h0] at hr; cases hr),fun i hi=>?_⟩
  have hi':=hi
  rw [hr] at hi'
  rcases (by simpa using hi':i=k∨i=j) with rfl | rfl
  ·exact wpOp_mono (fun a' w' h3=>⟨fun _=>h3.1,wpAnyT_tree hol hsel hs hc hn hQ t (m-1) _ a' w' (inv.set hi hkn) hB1 h3.2⟩) h.1
  ·exact wpOp_mono (fun a' w' h3=>⟨fun _=>h3.1,wpAnyT_tree hol hsel hs hc hn hQ s (m-1) _ a' w' (inv.set hi hjn) hB2 h3.2⟩) h.2
def treeB (md:Region.Mode) (ops:Array Oper) (n:Nat) (t:PT):Bool :=
 Region.noSelect ops&&decide (n<ops.size)&&Region.sinkB md ops n&&Region.chainB md ops n&&t.okB md ops n n (Array.replicate ops.size false)
theorem wp_region_tree {id:Nat} {a:Act} {w:World} {l:List Oper} (S:World→Prop) (n:Nat) (t:PT) (hm:P.follows .mixedOrders=true) (hB:treeB .any l.toArray n t=true)
 (h:wpTree P l.toArray (NoPanic Q) S (fun a' w'=>wpList P l.toArray (NoPanic Q) (l.drop n) a' w') t a w.drew):(Code.region id l.toArray true).wp P Q a w:=by
 simp only [treeB,Bool.and_eq_true,decide_eq_true_eq] at hB
 obtain ⟨⟨⟨⟨hsel,hn⟩,hs⟩,hc⟩,hp⟩:=hB
 refine wp_region_noPanic ?_
 refine wp_region_any hm ?_
 have inv0:HeadInv .any l.toArray n (Array.replicate l.toArray.size false) :=
  ⟨by simp,fun j oj _ hl=>(by rw [getD_replicate_false] at hl; cases hl),fun t _ ht=>getD_in (by simpa using ht) (getD_replicate_false _ _)⟩
 have:=wpAnyT_tree (md:=.any) (Q:=NoPanic Q) (S:=S) rfl hsel hs hc hn (fun _ _ _ h=>h) t n _ a _ inv0 hp h
 rw [show n+(l.toArray.size-n)=l.toArray.size by omega] at this
 exact wpAny_of_T _ _ _ _ this
end
section
variable {P:Program} {ops:Array Oper} {Q:Exit→Act→World→Prop} {S:World→Prop}
theorem trY {K:Act→World→Prop} {k:Nat} {o:Oper} {v:Value} {l:PT} {a a':Act} {w:World} (d:Tmp) (hS:S w) (h:wpTree P ops Q S K l a' w) (ho:ops[k]?=some o:=by exact rfl) (hd:o.dst=some d:=by exact rfl)
 (hw:Region.wanted o (yielded ops a.tmps)=true:=by rfl) (hy:∀ W,S W→(execOp a.eval o).run P W=.ok (.value v) W:=by intro W' hs; (try subst hs); go_simp; (try with_reducible rfl)) (ha:a.put (some d) v=a':=by simp only [pq]; exact rfl) :
 wpTree P ops Q S K (.take k l) a w:=by
 subst ha; refine ⟨o,v,ho,.inl ⟨hw,hy⟩,hS,?_⟩; rw [hd]; exact h
theorem trOp {K:Act→World→Prop} {k:Nat} {o:Oper} {l:PT} {a:Act} {w:World} (ho:ops[k]?=some o)
 (h:∀ K':Act→World→Prop,(∀ a w,S w→wpTree P ops Q S K l a w→K' a w)→if Region.wanted o (yielded ops a.tmps)=true then Oper.wp P o a w K' Q else K' (a.put o.dst undef) w) :
 wpOp P ops Q k (fun a' w'=>S w'∧wpTree P ops Q S K l a' w') a w:=by
 unfold wpOp
 simp only [ho]
 have:=h (fun a' w'=>S w'∧wpTree P ops Q S K l a' w') (fun a w h1 h2=>⟨h1,h2⟩)
 split
 ·rename_i hw; rw [if_pos hw] at this; exact .inl this
 ·rename_i hw; rw [if_neg hw] at this; exact this
theorem trC {K:Act→World→Prop} {k:Nat} {o:Oper} {l:PT} {a:Act} {w:World} (ho:ops[k]?=some o)
 (h:∀ K':Act→World→Prop,(∀ a w,S w→wpTree P ops Q S K l a w→K' a w)→if Region.wanted o (yielded ops a.tmps)=true then Oper.wp P o a w K' Q else K' (a.put o.dst undef) w) :
 wpTree P ops Q S K (.one k l) a w:=trOp ho h
theorem tr2 {K:Act→World→Prop} {k j:Nat} {l s:PT} {a:Act} {w:World} (h1:wpOp P ops Q k (fun a' w'=>S w'∧wpTree P ops Q S K l a' w') a w) (h2:wpOp P ops Q j (fun a' w'=>S w'∧wpTree P ops Q S K s a' w') a w) :
 wpTree P ops Q S K (.two k l j s) a w:=⟨h1,h2⟩
theorem tr0 {K:Act→World→Prop} {a:Act} {w:World} (h:K a w):wpTree P ops Q S K .nil a w:=h
end
open Go.RowKit
set_option maxRecDepth 100000
theorem run_appI {w:World} (B:Nat) (ty:TypeId) (v u:Value) (xs ys:List Int) (hown:OwnI B w v xs) (hu:IntsAt w u ys) (hlen:xs.length+ys.length≤17592186044416) (hB:B≤w.heap.size) :
 ∃ v' w',(Builtin.append_ #[22,22] ty #[v,u]).run Tryz.prog w=.ok v' w'∧OwnI B w' v' (xs++ys)∧Below B w w'∧w.grownBy w' v.ownBlock∧(v'.ownBlock=v.ownBlock∨v'.ownBlock=some w.heap.size):=by
 obtain ⟨i,hi,hz0,hz1,hz2⟩:=info_parts iInt
 obtain ⟨ao,cap,rfl,h1,h2,h3,h4⟩:=hu
 cases ao with
 | none =>
  obtain rfl:=h3 rfl
  have hy:ys=[]:=List.length_eq_zero_iff.1 (by omega)
  subst hy
  have hrun:=run_append_owned_none (P:=Tryz.prog) w B 22 ty 3 i 1 uInts hi v xs.length _ hown
  exact ⟨_,_,hrun,by simpa using hown,Below.refl _ _,World.grownBy.refl _ _,.inl rfl⟩
 | some p =>
  obtain ⟨v',w',hr,ho',hgr,_,hat⟩:=run_append_own_at (P:=Tryz.prog) w B 22 ty 3 i (.int .i64 0) 1 8 uInts hi hz0 hz1 hz2 rfl (by decide) v xs.length _ hown p ys.length cap (ys.map (.int .i64)) (by simp) (fun j u hj=>by
   have hjl:j<ys.length:=by have:=(List.getElem?_eq_some_iff.1 hj).1; simpa using this
   have:=h4 j hjl
   simp only [valAt] at this
   rw [this,← hj]; simp [hjl]) (ints_oneCell _ _) (by unfold maxLen; omega) (by omega) hB
  exact ⟨v',w',hr,by simpa [OwnI] using ho',(Below.refl _ _).grown hgr hB (fun k hk=>(hown.lt k hk).1),hgr,hat⟩
theorem step_appI {ops:Array Oper} {o:Oper} {a:Act} {w:World} {K:Act→World→Prop} {Q:Exit→Act→World→Prop} {Ep:Prop} (hgd:o.guard=none) (s x:Operand)
 (ho:o.op=.call { callee:=.builtin .append,args:=#[s,x],argTypes:=#[22,22] })
 (B:Nat) (v u:Value) (xs ys:List Int) (hs:a.eval s=v) (hx:a.eval x=u) (hown:OwnI B w v xs) (hu:IntsAt w u ys)
 (hlen:xs.length+ys.length≤17592186044416) (hB:B≤w.heap.size)
 (h:∀ v' w',OwnI B w' v' (xs++ys)→Below B w w'→K (a.put o.dst v') w') :
 if Region.wanted o (yielded ops a.tmps)=true then Oper.wp Tryz.prog o a w K Q else Ep:=by
 have hw:Region.wanted o (yielded ops a.tmps)=true:=by simp [Region.wanted,hgd]
 rw [if_pos hw]
 obtain ⟨v',w',hr,h2,h3,_,_⟩:=run_appI B o.type v u xs ys hown hu hlen hB
 unfold Oper.wp
 simp [execOp,ho,resolve,invoke,builtin,hs,hx,hr,Result.andThen]
 exact h v' w' h2 h3
end Go.Proofs.YtncpnaoabkjegaaGreatDoor
namespace Go.Proofs.YtncpnaoabkjegaaGreatDoor
theorem mem_compl {K R:Nat} {T:List Int} (_hK:1≤K) (ws:List Int):∀ (u:List Int),Syms K u→u.length=2*R→∀ c,c∈compl K (pw K (2*R)) T (numW K u) ws↔Syms K c∧c.length=ws.length∧imgP K R T (u++c)=ws:=by
 induction ws with
 | nil =>
  intro u su lu c
  show c∈[[]]↔_
  rw [List.mem_singleton]
  constructor
  ·rintro rfl
   exact ⟨fun x hx=>(by cases hx),rfl,List.eq_nil_of_length_eq_zero (by rw [imgP_length]; simp [lu])⟩
  ·rintro ⟨_,h,_⟩
   exact List.eq_nil_of_length_eq_zero h
 | cons y ws ih =>
  intro u su lu c
  -- the front behind one more symbol
  have front:∀ s:Int,0≤s→s<K→∃ x0 u',u++[s]=x0::u'∧Syms K u'∧u'.length=2*R∧numW K u'=(numW K u*K+s.toNat)%pw K (2*R):=fun s s0 s1=>by
   have hs:=syms_snoc s0 s1 su
   obtain ⟨x0,u',e⟩:∃ x0 u',u++[s]=x0::u':=by
    cases h:u++[s] with
    | nil=>simp at h
    | cons a b=>exact ⟨a,b,rfl⟩
   have su':Syms K u':=fun z hz=>hs z (by rw [e]; exact List.mem_cons_of_mem _ hz)
   have lu':u'.length=2*R:=by have:=congrArg List.length e; simp at this; omega
   refine ⟨x0,u',e,su',lu',?_⟩
   have:=numW_mod (K:=K) (u:=[x0]) su'
   rw [lu',List.singleton_append,← e,numW_snoc] at this
   exact this.symm
  have img:∀ s c',0≤s→s<(K:Int)→∀ x0 u',u++[s]=x0::u'→u'.length=2*R→imgP K R T (u++s::c')=T.getD (numW K u*K+s.toNat) 0::imgP K R T (u'++c'):=fun s c' s0 s1 x0 u' e lu'=>by
   have e1:u++s::c'=x0::(u'++c'):=by
    rw [show u++s::c'=(u++[s])++c' by simp,e]; rfl
   rw [e1,imgP_cons (by rw [List.length_append]; omega),List.take_append_of_le_length (by omega),List.take_of_length_le (by omega),← e,numW_snoc]
  rw [compl_cons]
  unfold complU
  rw [List.mem_flatMap]
  constructor
  ·rintro ⟨s,hs,h⟩
   have hsK:=List.mem_range.1 hs
   by_cases ht:T.getD (numW K u*K+s) 0=y
   ·rw [if_pos ht,List.mem_map] at h
    obtain ⟨c',hc',rfl⟩:=h
    obtain ⟨x0,u',e,su',lu',nu'⟩:=front s (by omega) (by omega)
    rw [Int.toNat_natCast] at nu'
    rw [← nu'] at hc'
    obtain ⟨a,b,d⟩:=(ih u' su' lu' c').1 hc'
    refine ⟨syms_cons (by omega) (by omega) a,by simp [b],?_⟩
    rw [img s c' (by omega) (by omega) x0 u' e lu',Int.toNat_natCast,ht,d]
   ·rw [if_neg ht] at h; cases h
  ·rintro ⟨sc,lc,e⟩
   cases c with
   | nil=>simp at lc
   | cons s c' =>
    have hs:=sc s (by simp)
    obtain ⟨n,rfl⟩:∃ n:Nat,s=n:=⟨s.toNat,by omega⟩
    obtain ⟨x0,u',e0,su',lu',nu'⟩:=front n (by omega) hs.2
    rw [img n c' (by omega) hs.2 x0 u' e0 lu',Int.toNat_natCast] at e
    rw [Int.toNat_natCast] at nu'
    injection e with e1 e2
    refine ⟨n,List.mem_range.2 (by omega),?_⟩
    rw [if_pos e1,List.mem_map]
    refine ⟨c',?_,rfl⟩
    rw [← nu']
    exact (ih u' su' lu' c').2 ⟨fun z hz=>sc z (List.mem_cons_of_mem _ hz),by simpa using lc,e2⟩
def preL (K R:Nat) (T ws:List Int):List (List Int):=allBefore K R T ws (pw K (2*R))
theorem mem_preL {K R:Nat} {T:List Int} (hK:1≤K) {ws x:List Int}:x∈preL K R T ws↔Syms K x∧x.length=ws.length+2*R∧imgP K R T x=ws:=by
 unfold preL allBefore
 rw [List.mem_flatMap]
 constructor
 ·rintro ⟨node,hn,h⟩
  obtain ⟨c,hc,rfl⟩:=List.mem_map.1 h
  have hn':=List.mem_range.1 hn
  have hd:=digs_syms hK (2*R) node
  have hc':=(mem_compl hK ws (digs K (2*R) node) hd (digs_length ..) c).1 (by rw [numW_digs hK _ _ hn']; exact hc)
  refine ⟨fun z hz=>?_,by rw [List.length_append,digs_length,hc'.2.1]; omega,hc'.2.2⟩
  rcases List.mem_append.1 hz with hz | hz
  ·exact hd z hz
  ·exact hc'.1 z hz
 ·rintro ⟨sx,lx,e⟩
  have st:Syms K (x.take (2*R)):=syms_take sx _
  have lt:(x.take (2*R)).length=2*R:=by rw [List.length_take]; omega
  have hn:=numW_lt _ st
  rw [lt] at hn
  have ed:=digs_numW hK _ st
  rw [lt] at ed
  refine ⟨numW K (x.take (2*R)),List.mem_range.2 hn,List.mem_map.2 ⟨x.drop (2*R),?_,by rw [ed,List.take_append_drop]⟩⟩
  exact (mem_compl hK ws _ st lt _).2 ⟨syms_drop sx _,by rw [List.length_drop]; omega,by rw [List.take_append_drop]; exact e⟩
end Go.Proofs.YtncpnaoabkjegaaGreatDoor
