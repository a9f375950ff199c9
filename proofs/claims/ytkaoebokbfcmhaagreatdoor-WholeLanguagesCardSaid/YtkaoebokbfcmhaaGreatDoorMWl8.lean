/-
  Texts that the proof leans on.
-/
import Derived.Test.YtkaoebokbfcmhaaGreatDoorMWl7
namespace Go.Proofs.YtkaoebokbfcmhaaGreatDoor
open Go.RowKit
set_option maxRecDepth 100000
set_option maxHeartbeats 8000000
abbrev box1 (T:TypeId) (b:Nat) (v:Value):Row:=rowV T (.slice (some ⟨b,0,none⟩) 1 1) [v]
theorem keys_env {B:Nat} {w:World} {f:Names} {kb N:Nat} {kv:Value} {kvs:List Value} {k:Nat→List Int} (hR:Rows B w f) (h6:f (6,0)=some (box1 31 kb kv)) (h4:f (4,0)=some (rowV 22 kv kvs)) (hl:kvs.length=N) (h5:∀ t,t<N→f (5,t)=some (rowI (kvs.getD t .nilIface) (k t))):CmpEnv w kb kv k N:=by
 refine ⟨hR.cell h6 (g:=kb) (cap:=1) rfl 0 (show 0<1*1 by decide),kvs,(hR.ownV h4).at,by simp [hl],fun i hi=>?_⟩
 have hi':i<N:=by simpa using hi
 have e:((List.range N).map k).getD i []=k i:=by simp [List.getD,hi']
 have ev:vAt kvs i=kvs.getD i .nilIface:=by
  have:i<kvs.length:=by omega
  simp [vAt,List.getD,this]
 rw [e,ev]
 exact (hR.ownI (h5 i hi')).at
theorem Rows.addBox1 {B:Nat} {w:World} {f:Names} (h:Rows B w f) (i:Nat×Nat) (T:TypeId) (v:Value) (hB:B≤w.heap.size):Rows B (w.alloc (.cells #[v] T)) (upd f i (some (box1 T w.heap.size v))) :=
 h.add (i:=i) (r':=box1 T w.heap.size v) (belowAlloc w (.cells #[v] T))
  (by
    have:=World.ownsRow_lit (base:=B) (e:=T) (size:=1) w #[v] 1 hB (by decide) rfl
    unfold Row.own
    simpa using this) (fun k hk=>by cases hk; exact Nat.le_refl _)
structure PartAt (w:World) (f:Names) (gb:Nat) (gv:Value) (g:List Int) (ov:Value) (o:List Nat):Prop where
 box:f (0,0)=some (box1 22 gb gv)
 ord:f (1,0)=some (rowI ov (intN o))
 grp:f (2,0)=some (rowI gv g)
theorem PartAt.key {B:Nat} {w0 w:World} {f:Names} {gb ab:Nat} {gv nv:Value} {X:List (List Int)} {g:List Int} {ov:Value} {o:List Nat} (h:PartAt w f gb gv g ov o) (hR:Rows B w f) (ca:w0.cell? ⟨ab,1,none⟩=some nv) (hX:ListsAt w0 nv X) (hb:Below w0.heap.size w0 w):KeyEnv w gb ab gv nv X g :=
 ⟨hR.cell h.box (g:=gb) (cap:=1) rfl 0 (show 0<1*1 by decide),cell_keep hb ca,(hR.ownI h.grp).at,hX.below hb⟩
theorem PartAt.upd {w w':World} {f:Names} {gb:Nat} {gv:Value} {g:List Int} {ov:Value} {o:List Nat} (h:PartAt w f gb gv g ov o) {i:Nat×Nat} {r:Option Row} (hi:3≤i.1):PartAt w' (upd f i r) gb gv g ov o :=
 ⟨by rw [upd_ne _ _ (by intro e; rw [← e] at hi; exact absurd hi (by decide))]; exact h.box,by rw [upd_ne _ _ (by intro e; rw [← e] at hi; exact absurd hi (by decide))]; exact h.ord,by rw [upd_ne _ _ (by intro e; rw [← e] at hi; exact absurd hi (by decide))]; exact h.grp⟩
theorem PartAt.world {w w':World} {f:Names} {gb:Nat} {gv:Value} {g:List Int} {ov:Value} {o:List Nat} (h:PartAt w f gb gv g ov o):PartAt w' f gb gv g ov o:=⟨h.box,h.ord,h.grp⟩
structure KeysAt (f:Names) (kb N:Nat) (kv:Value) (kvs:List Value) (k:Nat→List Int) (m:Nat):Prop where
 box:f (6,0)=some (box1 31 kb kv)
 out:f (4,0)=some (rowV 22 kv kvs)
 len:kvs.length=N
 each:∀ t,t<m→f (5,t)=some (rowI (kvs.getD t .nilIface) (k t))
theorem KeysAt.env {B:Nat} {w:World} {f:Names} {kb N:Nat} {kv:Value} {kvs:List Value} {k:Nat→List Int} (h:KeysAt f kb N kv kvs k N) (hR:Rows B w f):CmpEnv w kb kv k N:=keys_env hR h.box h.out h.len h.each
theorem KeysAt.upd {f:Names} {kb N m:Nat} {kv:Value} {kvs:List Value} {k:Nat→List Int} (h:KeysAt f kb N kv kvs k m) {i:Nat×Nat} {r:Option Row} (hi:i.1≤3):KeysAt (upd f i r) kb N kv kvs k m :=
 ⟨by rw [upd_ne _ _ (by intro e; rw [← e] at hi; exact absurd hi (by decide))]; exact h.box,by rw [upd_ne _ _ (by intro e; rw [← e] at hi; exact absurd hi (by decide))]; exact h.out,h.len,fun t ht=>by rw [upd_ne _ _ (by intro e; rw [← e] at hi; exact absurd hi (by show ¬ 5≤3; decide))]; exact h.each t ht⟩
theorem KeysAt.more {f:Names} {kb N i:Nat} {kv v:Value} {kvs:List Value} {k:Nat→List Int} (h:KeysAt f kb N kv kvs k i) (hi:i<N) :
 KeysAt (Go.Proofs.YtkaoebokbfcmhaaGreatDoor.upd (Go.Proofs.YtkaoebokbfcmhaaGreatDoor.upd f (5,i) (some (rowI v (k i)))) (4,0) (some (rowV 22 kv (kvs.set i v)))) kb N kv (kvs.set i v) k (i+1):=by
 have hl:=h.len
 refine ⟨?_,upd_same _ _ _,by rw [List.length_set]; exact hl,fun t ht=>?_⟩
 ·rw [upd_ne _ _ (by intro e; injection e with e _; exact absurd e (by decide)),upd_ne _ _ (by intro e; injection e with e _; exact absurd e (by decide))]; exact h.box
 ·rw [upd_ne _ _ (by intro e; injection e with e _; exact absurd e (by decide))]
  by_cases e:t=i
  ·subst e
   have:t<kvs.length:=by omega
   rw [upd_same]
   simp [List.getD,this]
  ·rw [upd_ne _ _ (by intro q; injection q with _ q; exact e q),h.each t (by omega)]
   congr 2
   rw [List.getD_eq_getElem?_getD,List.getD_eq_getElem?_getD,List.getElem?_set_ne (by omega)]
theorem intN_get {o:List Nat} {p:Nat} (h:p<o.length):(intN o).getD p 0=((o.getD p 0:Nat):Int):=by simp [intN,List.getD,h]
theorem PartAt.sorted {w w':World} {f:Names} {gb:Nat} {gv:Value} {g:List Int} {ov:Value} {o o2:List Nat} (h:PartAt w f gb gv g ov o):PartAt w' (Go.Proofs.YtkaoebokbfcmhaaGreatDoor.upd f (1,0) (some (rowI ov (intN o2)))) gb gv g ov o2 :=
 ⟨by rw [upd_ne _ _ (by decide)]; exact h.box,upd_same _ _ _,by rw [upd_ne _ _ (by decide)]; exact h.grp⟩
theorem RetB.quiet {f:FuncId} {args:Array Value} {w:World} {b:Bool} (h:Calls Tryz.prog f args w (RetB b w)):Calls Tryz.prog f args w fun e w'=>e=.returned (.bool b)∧∃ m,w'=w.drewN m :=
 h.mono fun _ _ ⟨n,e,h⟩=>⟨e,n,h⟩
theorem PartAt.next {B:Nat} {w w':World} {f:Names} {gb:Nat} {gv xv:Value} {g x:List Int} {ov:Value} {o:List Nat} (h:PartAt w f gb gv g ov o) (hR:Rows B w f) (h3:f (3,0)=some (rowI xv x)) :
 Rows B (w.setCell ⟨gb,0,none⟩ xv) (Go.Proofs.YtkaoebokbfcmhaaGreatDoor.upd (Go.Proofs.YtkaoebokbfcmhaaGreatDoor.upd (Go.Proofs.YtkaoebokbfcmhaaGreatDoor.upd f (0,0) (some (box1 22 gb xv))) (3,0) none) (2,0) (some (rowI xv x))) ∧
 PartAt w' (Go.Proofs.YtkaoebokbfcmhaaGreatDoor.upd (Go.Proofs.YtkaoebokbfcmhaaGreatDoor.upd (Go.Proofs.YtkaoebokbfcmhaaGreatDoor.upd f (0,0) (some (box1 22 gb xv))) (3,0) none) (2,0) (some (rowI xv x))) gb xv x ov o:=by
 have hs:=hR.set h.box (g:=gb) (cap:=1) rfl 0 xv
 replace hs:Rows B (w.setCell ⟨gb,0,none⟩ xv) (Go.Proofs.YtkaoebokbfcmhaaGreatDoor.upd f (0,0) (some (box1 22 gb xv))):=hs
 have k3:Go.Proofs.YtkaoebokbfcmhaaGreatDoor.upd f (0,0) (some (box1 22 gb xv)) (3,0)=some (rowI xv x):=by rw [upd_ne _ _ (by decide)]; exact h3
 refine ⟨hs.move k3 (hs.1 _ _ k3) rfl,?_,?_,upd_same _ _ _⟩
 ·rw [upd_ne _ _ (by decide),upd_ne _ _ (by decide),upd_same]
 ·rw [upd_ne _ _ (by decide),upd_ne _ _ (by decide),upd_ne _ _ (by decide)]; exact h.ord
theorem img_parted {K N:Nat} (nv:Value) (X:List (List Int)) (w:World) (hX:ListsAt w nv X) (ok:AutoOk K N X) (hKm:K≤1000) (hN:N≤4096) :
 Calls Tryz.prog 142 #[.agg #[.int .i64 K,nv]] w (Ret1 (fun v w'=>∃ g n,IntsAt w' v g∧Groups N g n∧Stable K N X g) w):=by
 obtain ⟨na,nc,rfl⟩:=hX.shape
 have hXl:=ok.len
 have n1:=ok.n1
 rw [hXl] at hX ⊢
 have b0:=belowAlloc w (.cells #[.int .i64 K,.slice na N nc] 54)
 have ca:(w.alloc (.cells #[.int .i64 K,.slice na N nc] 54)).cell? ⟨w.heap.size,1,none⟩=some (.slice na N nc):=by simp [go_sem]
 obtain ⟨w0,hw0⟩:∃ W:World,w.alloc (.cells #[.int .i64 K,.slice na N nc] 54)=W:=⟨_,rfl⟩
 rw [hw0] at b0 ca
 obtain ⟨ab,hab⟩:∃ ab,w.heap.size=ab:=⟨_,rfl⟩
 rw [hab] at ca
 replace hX:=Hd (hX.below b0)
 replace ok:=Hd ok
 replace hw0:=Hd hw0
 replace hab:=Hd hab
 replace hXl:=Hd hXl
 go_enter Tryz.func142,Tryz.ntmps142
 go_upto_region 1 with fail
 rw [hw0.out,hab.out]
 go_wp2_with (at_make; refine wpl_make rfl _ _ rfl _ rfl rfl (by omega) (by omega) ?_)
 intro gv w1 hg1 b1
 obtain ⟨ga,gn,gc,rfl⟩:=hg1.at.shape
 have hs1:=b1.size
 have hR1:=(Rows.void w0.heap.size w0).add (i:=(2,0)) (r':=rowI (.slice ga gn gc) (List.replicate N 0)) b1 hg1 (fun k hk=>(hg1.lt k hk).1)
 have hR2:=hR1.addBox1 (0,0) 22 (.slice ga gn gc) hs1
 have b2:=b1.trans ((belowAlloc w1 (.cells #[.slice ga gn gc] 22)).mono hs1)
 obtain ⟨gb,hgb⟩:∃ gb,w1.heap.size=gb:=⟨_,rfl⟩
 obtain ⟨w2,hw2⟩:∃ W:World,w1.alloc (.cells #[.slice ga gn gc] 22)=W:=⟨_,rfl⟩
 obtain ⟨f2,hf2⟩:∃ F,upd (upd (fun _=>none) (2,0) (some (rowI (.slice ga gn gc) (List.replicate N 0)))) (0,0) (some (box1 22 gb (.slice ga gn gc)))=F:=⟨_,rfl⟩
 rw [hgb,hf2,hw2] at hR2
 rw [hw2] at b2
 have k00:f2 (0,0)=some (box1 22 gb (.slice ga gn gc)):=by rw [← hf2,upd_same]
 have k20:f2 (2,0)=some (rowI (.slice ga gn gc) (List.replicate N 0)):=by rw [← hf2,upd_ne _ _ (by decide),upd_same]
 replace k00:=Hd k00
 replace k20:=Hd k20
 replace hR2:=Hd hR2
 replace hgb:=Hd hgb
 replace hw2:=Hd hw2
 clear hR1 hg1 hf2
 have hs2:=b2.size
 have ca2:=cell_keep b2 ca
 go_upto_region 2 with fail
 rw [hw2.out,hgb.out]
 go_wp2_with (at_make; refine wpl_make rfl _ _ rfl _ rfl rfl (by omega) (by omega) ?_)
 intro ov w3 ho3 b3
 obtain ⟨oa,on,oc,rfl⟩:=ho3.at.shape
 rw [← idN_zero] at ho3
 have l3:=ho3.at.len
 rw [idN_len] at l3
 replace ho3:=Hd ho3
 replace ok:=Hd ok.out
 clear ca2
 go_wp2
 go_loopw [24] (fun iv wr=>∃ i:Nat,iv=.int .i64 i∧i≤N∧OwnI w2.heap.size wr (.slice oa on oc) (idN N i)∧Below w2.heap.size w2 wr) (fun iv _=>N-(intOf iv).toNat)
 case atStart=>exact ⟨0,rfl,Nat.zero_le _,ho3.out,b3⟩
 case round =>
  clear ho3 b3
  obtain ⟨i,rfl,hi,hO,hB3⟩:=hrel
  by_cases hin:i<N
  ·have di:decide ((i:Int)<(N:Int))=true:=decide_eq_true (by omega)
   have iX:=fun w'=>hO.at.idx i (by rw [idN_len]; exact hin) w'
   have cX:=hO.at.cellD i (by rw [idN_len]; exact hin)
   have fX:=hO.frz i (by rw [idN_len]; exact hin)
   have hO2:=hO.set i (by rw [idN_len]; exact hin) (i:Int)
   have hB5:=hO.setBelow hB3 i (by rw [idN_len]; exact hin) (.int .i64 i)
   rw [idN_set] at hO2
   obtain ⟨xa,hxa⟩:∃ xa,valAt (.slice oa on oc) i=xa:=⟨_,rfl⟩
   rw [hxa] at iX cX fX hO2 hB5
   replace hxa:=Hd hxa
   replace hO:=Hd hO
   replace hO2:=Hd hO2
   go_wp2
   go_roundw
   case measure=>simp [intOf]; omega
   case rel=>exact ⟨i+1,by go_num,by omega,hO2.out,hB5⟩
  ·obtain rfl:N=i:=by omega
   have di:decide ((N:Int)<(N:Int))=false:=decide_eq_false (by omega)
   obtain ⟨wl,rfl⟩:∃ wl:World,wl=wr:=⟨_,rfl⟩
   rw [idN_full] at hO
   replace hO:OwnI w2.heap.size wl (.slice oa on oc) (intN (List.range N)):=hO
   have hR3:=hR2.out.add (i:=(1,0)) (r':=rowI (.slice oa on oc) (intN (List.range N))) hB3 (hO.mono hs2) (fun k hk=>(hO.lt k hk).1)
   have hP3:PartAt wl (upd f2 (1,0) (some (rowI (.slice oa on oc) (intN (List.range N))))) gb (.slice ga gn gc) (List.replicate N 0) (.slice oa on oc) (List.range N):=⟨by rw [upd_ne _ _ (by decide)]; exact k00.out,upd_same _ _ _,by rw [upd_ne _ _ (by decide)]; exact k20.out⟩
   have bw3:=b2.trans (hB3.mono hs2)
   have hG:=groups_one n1
   replace hR3:=Hd hR3
   replace hP3:=Hd hP3
   replace hG:=Hd hG
   clear hO hR2 k00 k20 hB3
   go_wp2
   go_loopw [7] (fun mv wr=>∃ (n:Nat) (f:Names) (gw:Value) (g:List Int) (o:List Nat),mv=.int .i64 n∧Groups N g n∧o.Perm (List.range N)∧Rows w0.heap.size wr f∧PartAt wr f gb gw g (.slice oa on oc) o∧Below w0.heap.size w0 wr) (fun mv _=>N+1-(intOf mv).toNat)
   case atStart=>exact ⟨1,_,_,_,_,rfl,hG.out,List.Perm.refl _,hR3.out,hP3.out,bw3⟩
   case round =>
    clear hR3 hP3 hG bw3
    obtain ⟨n,f,gw,g,o,rfl,hG,hp,hR,hP,hB⟩:=hrel
    obtain ⟨wo,rfl⟩:∃ wo:World,wo=wr:=⟨_,rfl⟩
    obtain ⟨wa,wn,wc,rfl⟩:=(hR.ownI hP.grp).at.shape
    have hol:(intN o).length=N:=by have:=hp.length_eq; simpa [intN] using this
    have lO:=fun w=>(hR.ownI hP.ord).at.len w
    rw [hol] at lO
    have hBs:=hB.size
    have hn1:=hG.pos n1
    have hnN:=hG.small
    replace hG:=Hd hG
    replace hp:=Hd hp
    replace hR:=Hd hR
    replace hP:=Hd hP
    replace hol:=Hd hol
    go_wp2_with (at_make; refine wpl_makeV oneLists rfl _ _ rfl (N:Int) rfl rfl (by omega) (by omega) ?_)
    intro kv w4 ho4 g4
    replace ho4:OwnV 22 wo.heap.size w4 kv (List.replicate N (.slice none 0 0)):=by simpa using ho4
    have b4:Below wo.heap.size wo w4:=(Below.refl _ _).grown g4 (Nat.le_refl _) (by intro k hk; cases hk)
    obtain ⟨ka,kn,kc,rfl⟩:=ho4.shape
    have hs4:=b4.size
    have hR4:=hR.out.add (i:=(4,0)) (r':=rowV 22 (.slice ka kn kc) (List.replicate N (.slice none 0 0))) b4 (by
     have:=ho4.mono hBs
     exact this) (fun k hk=>(ho4.lt k hk).1)
    have hR5:=hR4.addBox1 (6,0) 31 (.slice ka kn kc) (by omega)
    have b5:=b4.trans ((belowAlloc w4 (.cells #[.slice ka kn kc] 31)).mono hs4)
    obtain ⟨kb,hkb⟩:∃ kb,w4.heap.size=kb:=⟨_,rfl⟩
    obtain ⟨w5,hw5⟩:∃ W:World,w4.alloc (.cells #[.slice ka kn kc] 31)=W:=⟨_,rfl⟩
    have hP5:PartAt w5 (upd (upd f (4,0) (some (rowV 22 (.slice ka kn kc) (List.replicate N (.slice none 0 0))))) (6,0) (some (box1 31 w4.heap.size (.slice ka kn kc)))) gb (.slice wa wn wc) g (.slice oa on oc) o:=(hP.out.upd (w':=wo) (by decide)).upd (by decide)
    have hK5:KeysAt (upd (upd f (4,0) (some (rowV 22 (.slice ka kn kc) (List.replicate N (.slice none 0 0))))) (6,0) (some (box1 31 w4.heap.size (.slice ka kn kc)))) w4.heap.size N (.slice ka kn kc) (List.replicate N (.slice none 0 0)) (keyG X g) 0 :=
     ⟨upd_same _ _ _,by rw [upd_ne _ _ (by decide),upd_same],by simp,fun t ht=>absurd ht (Nat.not_lt_zero _)⟩
    obtain ⟨f5,hf5⟩:∃ F,upd (upd f (4,0) (some (rowV 22 (.slice ka kn kc) (List.replicate N (.slice none 0 0))))) (6,0) (some (box1 31 w4.heap.size (.slice ka kn kc)))=F:=⟨_,rfl⟩
    rw [hf5] at hR5 hP5 hK5
    rw [hkb] at hK5
    rw [hw5] at hR5 b5
    have hb5:=hB.trans (b5.mono hBs)
    have cK:=hR5.cell hK5.box (g:=kb) (cap:=1) rfl 0 (show 0<1*1 by decide)
    replace cK:w5.cell? ⟨kb,0,none⟩=some (.slice ka kn kc):=cK
    have lK:∀ w',(Builtin.len_ #[31] 3 #[.slice ka kn kc]).run Tryz.prog w'=.ok (.int .i64 (N:Int)) w':=fun w'=>by
     have:=(hR5.ownV hK5.out).at.len oneLists 3 w'
     rw [hK5.len] at this; exact this
    replace hR5:=Hd hR5
    replace hP5:=Hd hP5
    replace hK5:=Hd hK5
    replace hw5:=Hd hw5
    replace hkb:=Hd hkb
    clear hR4 ho4 g4 hf5
    go_upto_region 11 with fail
    rw [hw5.out,hkb.out]
    clear hw5 hkb b4 hs4
    go_wp2
    go_loopw [38] (fun iv wr=>∃ (i:Nat) (f':Names) (kvs:List Value),iv=.int .i64 i∧i≤N∧Rows w0.heap.size wr f'∧PartAt wr f' gb (.slice wa wn wc) g (.slice oa on oc) o∧KeysAt f' kb N (.slice ka kn kc) kvs (keyG X g) i∧Below w0.heap.size w0 wr) (fun iv _=>N-(intOf iv).toNat)
    case atStart=>exact ⟨0,_,_,rfl,Nat.zero_le _,hR5.out,hP5.out,hK5.out,hb5⟩
    case round =>
     obtain ⟨i,f',kvs,rfl,hi,hR',hP',hK',hB'⟩:=hrel
     obtain ⟨wi,rfl⟩:∃ wo:World,wo=wr:=⟨_,rfl⟩
     by_cases hin':i<N
     ·have di':decide ((i:Int)<(N:Int))=true:=decide_eq_true (by omega)
      obtain ⟨W,hW⟩:∃ W:World,wi.drew=W:=⟨_,rfl⟩
      have hRW:Rows w0.heap.size W f':=by rw [← hW]; exact hR'.drew
      have hBW:Below w0.heap.size w0 W:=by rw [← hW]; exact hB'.drew
      have hkey:=img_key gb ab _ _ X g i W ((hP'.world (w':=W)).key hRW ca hX.out hBW) ok.out hG.out.len hin' hKm
      have hS:W.cell? ⟨kb,0,none⟩=some (.slice ka kn kc):=hRW.cell hK'.box (g:=kb) (cap:=1) rfl 0 (show 0<1*1 by decide)
      have iX:=fun w'=>(hRW.ownV hK'.out).at.idx oneLists i (by rw [hK'.len]; exact hin') w'
      obtain ⟨xa,hxa⟩:∃ xa,valAt (.slice ka kn kc) i=xa:=⟨_,rfl⟩
      rw [hxa] at iX
      replace hkey:=Hd hkey
      replace hxa:=Hd hxa
      replace hRW:=Hd hRW
      replace hBW:=Hd hBW
      replace hW:=Hd hW
      replace hP':=Hd hP'
      replace hK':=Hd hK'
      clear hR' hB' cK hR5 hP5 hK5 hb5
      go_upto_region 14 with fail
      refine wp_region_plan (fun w'=>w'.cell? ⟨kb,0,none⟩=some (.slice ka kn kc)) 6 [(0,true),(1,true),(2,true),(3,true),(4,false),(5,true)] (by kernel_rfl) (by kernel_rfl) ?_
      rw [hW.out]
      refine pqY 41 hS ?_
      refine pqY 42 hS ?_
      refine pqY 43 hS ?_
      refine pqY 44 hS ?_
      refine headC rfl (fun KK hK=>?_)
      go_simp
      refine hkey.out.mono ?_
      rintro e w6 ⟨v,rfl,b6,hv⟩
      obtain ⟨va,vn,vc,rfl⟩:=hv.at.shape
      have hsW:=hBW.out.size
      have hR6:=hRW.out.add (i:=(5,i)) (r':=rowI (.slice va vn vc) (keyG X g i)) b6 (hv.mono hsW) (fun k hk=>(hv.lt k hk).1)
      have hB6:=hBW.out.trans (b6.mono hsW)
      have hS6:=cell_keep b6 hS
      have k40:upd f' (5,i) (some (rowI (.slice va vn vc) (keyG X g i))) (4,0)=some (rowV 22 (.slice ka kn kc) kvs):=by
       rw [upd_ne _ _ (by intro e; injection e with e _; exact absurd e (by decide))]; exact hK'.out.out
      have hV6:=hR6.ownV k40
      have hil:i<kvs.length:=by rw [hK'.out.len]; exact hin'
      have cX:=hV6.at.cell i hil
      have fX:=hV6.frz i hil
      have hR7:=hR6.setV k40 i hil (.slice va vn vc)
      have hB7:=hB6.setCell (hV6.blkB i hil).2 (.slice va vn vc)
      have hK7:=hK'.out.more (v:=.slice va vn vc) hin'
      have hP7:PartAt ((w6.setCell (valAt (.slice ka kn kc) i) (.slice va vn vc))) (upd (upd f' (5,i) (some (rowI (.slice va vn vc) (keyG X g i)))) (4,0) (some (rowV 22 (.slice ka kn kc) (kvs.set i (.slice va vn vc))))) gb (.slice wa wn wc) g (.slice oa on oc) o:=(hP'.out.upd (w':=w6) (show 3≤5 by decide)).upd (show 3≤4 by decide)
      rw [hxa.out] at cX fX hR7 hB7 hP7
      replace hR7:=Hd hR7
      replace hB7:=Hd hB7
      replace hP7:=Hd hP7
      replace hK7:=Hd hK7
      clear hR6 hB6 k40 hV6 hv hkey b6
      refine hK _ _ hS6 ?_
      clear hK KK
      refine pqY 46 hS6 ?_
      refine head0 ?_
      simp only [List.drop_succ_cons,List.drop_zero]
      clear hS hS6
      go_wp2
      refine NoPanic.normal ?_
      go_wp2
      go_roundw
      case measure=>simp [intOf]; omega
      case rel=>exact ⟨i+1,_,_,by go_num,by omega,hR7.out,hP7.out,hK7.out,hB7.out⟩
     ·obtain rfl:N=i:=by omega
      have di':decide ((N:Int)<(N:Int))=false:=decide_eq_false (by omega)
      clear hR5 hP5 hK5 hb5 cK lK
      have henv:=hK'.env hR'
      have hsort:=sortf_keys (Fn:=175) (cb:=.pointer (some ⟨kb,0,none⟩)) (keyG X g) (.slice oa on oc) o wi hR' hP'.ord hp.out n1 (by omega) eg_img_cmp (fun W o' _ hW i j hi hj=>img_cmp kb _ (keyG X g) N i j W ((hK'.upd (by decide)).env hW) hi hj)
      replace hsort:=Hd hsort
      replace hR':=Hd hR'
      replace hP':=Hd hP'
      replace hK':=Hd hK'
      clear henv
      go_wp2_with fail
      refine hsort.out.mono ?_
      rintro e w8 ⟨rfl,o2,hR8,hp8,hSK,hg8⟩
      have hB8:=hB'.grown hg8 hB'.size (fun k hk=>(hR'.out.lt hP'.out.ord k hk).1)
      have hP8:PartAt w8 (upd f' (1,0) (some (rowI (.slice oa on oc) (intN o2)))) gb (.slice wa wn wc) g (.slice oa on oc) o2:=hP'.out.sorted
      have hK8:=hK'.out.upd (i:=(1,0)) (r:=some (rowI (.slice oa on oc) (intN o2))) (by decide)
      have hs8:=hB8.size
      have hol2:o2.length=N:=by have:=hp8.length_eq; simpa using this
      replace hR8:=Hd hR8
      replace hP8:=Hd hP8
      replace hK8:=Hd hK8
      replace hSK:=Hd hSK
      replace hp8:=Hd hp8
      replace hol2:=Hd hol2
      clear hsort hg8 hR' hP' hK' hB'
      go_wp2_with (at_make; refine wpl_make rfl _ _ rfl _ rfl rfl (by omega) (by omega) ?_)
      intro xv w9 ho9 b9
      obtain ⟨xa,xn,xc,rfl⟩:=ho9.at.shape
      have hR9:=hR8.out.add (i:=(3,0)) (r':=rowI (.slice xa xn xc) (List.replicate N 0)) b9 (ho9.mono hs8) (fun k hk=>(ho9.lt k hk).1)
      have hP9:PartAt w9 (upd (upd f' (1,0) (some (rowI (.slice oa on oc) (intN o2)))) (3,0) (some (rowI (.slice xa xn xc) (List.replicate N 0)))) gb (.slice wa wn wc) g (.slice oa on oc) o2:=hP8.out.upd (by decide)
      have hK9:=hK8.out.upd (i:=(3,0)) (r:=some (rowI (.slice xa xn xc) (List.replicate N 0))) (by decide)
      have hB9:=hB8.trans (b9.mono hs8)
      have hScan:ScanL (keyG X g) o2 N 0 (List.replicate N 0):=⟨by simp,fun q hq=>absurd hq (Nat.not_lt_zero _)⟩
      replace hR9:=Hd hR9
      replace hP9:=Hd hP9
      replace hK9:=Hd hK9
      replace hScan:=Hd hScan
      clear hR8 hP8 hK8 ho9 b9 hB8
      go_wp2
      go_loopw [11,56] (fun cv pv wr=>∃ (p c:Nat) (f':Names) (x:List Int),cv=.int .i64 c∧pv=.int .i64 p∧p≤N∧c=cntP (keyG X g) o2 p∧Rows w0.heap.size wr f'∧PartAt wr f' gb (.slice wa wn wc) g (.slice oa on oc) o2∧KeysAt f' kb N (.slice ka kn kc) kvs (keyG X g) N∧f' (3,0)=some (rowI (.slice xa xn xc) x)∧ScanL (keyG X g) o2 N p x∧Below w0.heap.size w0 wr) (fun _ pv _=>N-(intOf pv).toNat)
      case atStart=>exact ⟨0,0,_,_,rfl,rfl,Nat.zero_le _,rfl,hR9.out,hP9.out,hK9.out,upd_same _ _ _,hScan.out,hB9⟩
      case round =>
       clear hR9 hP9 hK9 hScan hB9
       obtain ⟨p,c,f',x,rfl,rfl,hpN,hc,hR',hP',hK',h3,hSc,hB'⟩:=hrel
       obtain ⟨wi,rfl⟩:∃ wo:World,wo=wr:=⟨_,rfl⟩
       by_cases hpl:p<N
       ·have di':decide ((p:Int)<(N:Int))=true:=decide_eq_true (by omega)
        have hq:=order_lt hp8.out hpl
        have hcS:=cntS_le (keyG X g) o2 p
        have hst:=hSc.step hp8.out hpl
        have hO:=hR'.ownI hP'.ord
        have hX3:=hR'.ownI h3
        have hpo:p<(intN o2).length:=by simp [intN,hol2.out,hpl]
        have iO:=fun w'=>hO.at.idx p hpo w'
        have cO:=hO.at.cellD p hpo
        rw [intN_get (by rw [hol2.out]; exact hpl)] at cO
        have henv:=hK'.env hR'
        obtain ⟨q,hqe⟩:∃ q,o2.getD p 0=q:=⟨_,rfl⟩
        rw [hqe] at cO hq hst
        have hqx:q<x.length:=by rw [hSc.len]; exact hq
        obtain ⟨m1,i1,c1,h1⟩:=henv.row q hq
        have i3:=fun w'=>hX3.at.idx q hqx w'
        have c3:=hX3.at.cellD q hqx
        have z3:=hX3.frz q hqx
        have cK:=henv.c
        obtain ⟨y3,hy3⟩:∃ y,x.getD q 0=y:=⟨_,rfl⟩
        rw [hy3] at c3
        obtain ⟨pO,hpO⟩:∃ a,valAt (.slice oa on oc) p=a:=⟨_,rfl⟩
        obtain ⟨p3,hp3⟩:∃ a,valAt (.slice xa xn xc) q=a:=⟨_,rfl⟩
        obtain ⟨p1,hp1⟩:∃ a,valAt (.slice ka kn kc) q=a:=⟨_,rfl⟩
        rw [hpO] at iO cO
        rw [hp3] at i3 c3 z3
        rw [hp1] at i1 c1
        have hfin:∀ (nq:Nat) (ci:Int),ci=(cntS (keyG X g) o2 p:Nat)→∃ f2 x2,Rows w0.heap.size ((wi.drewN nq).setCell p3 (.int .i64 ci)) f2∧PartAt ((wi.drewN nq).setCell p3 (.int .i64 ci)) f2 gb (.slice wa wn wc) g (.slice oa on oc) o2∧KeysAt f2 kb N (.slice ka kn kc) kvs (keyG X g) N∧f2 (3,0)=some (rowI (.slice xa xn xc) x2)∧ScanL (keyG X g) o2 N (p+1) x2∧Below w0.heap.size w0 ((wi.drewN nq).setCell p3 (.int .i64 ci)):=by
         intro nq ci hci
         have r1:=(hR'.drewN nq).setI h3 q hqx ci
         rw [hp3] at r1
         refine ⟨_,_,r1,hP'.upd (by decide),hK'.upd (by decide),upd_same _ _ _,by rw [hci]; exact hst,?_⟩
         have:=(below_drewN hB' nq).setCell (hX3.blkB q hqx) (.int .i64 ci)
         rw [hp3] at this
         exact this
        have hcp:c≤4096:=by
         rw [hc]
         by_cases p0:p=0
         ·rw [p0,cntP_zero]; omega
         ·obtain ⟨p',rfl⟩:∃ p',p=p'+1:=⟨p-1,by omega⟩
          rw [cntP_succ]
          have:=cntS_le (keyG X g) o2 p'
          omega
        replace hfin:=Hd hfin
        have hB2:=Hd hB'
        replace hB':=Hd hB'
        have hR2':=Hd hR'
        have hO2:=Hd hO
        clear hst hX3 hR' hP' hK' h3 hSc hO hy3 hpO hp3 hp1 hcS hpo hqx
        obtain ⟨a1,n1',q1,rfl⟩:=h1.shape
        by_cases hp0:p=0
        ·subst hp0
         have d0:decide ((0:Int)>0)=false:=by decide
         have ci0:(c:Int)=(cntS (keyG X g) o2 0:Nat):=by rw [hc]; rfl
         replace ci0:=Hd ci0
         replace hc:=Hd hc
         replace h1:=Hd h1
         replace henv:=Hd henv
         rw [show ((0:Nat):Int)=0 from rfl] at di' iO ⊢
         go_wp2
         go_quiet (fail)
         go_wp2
         go_roundw
         case measure=>simp [intOf]; omega
         case rel =>
          obtain ⟨f2',x2,r1,r2,r3,r4,r5,r6⟩:=hfin.out nq c ci0.out
          exact ⟨1,c,f2',x2,rfl,rfl,by omega,by exact Int.ofNat.inj ci0.out,r1,r2,r3,r4,r5,r6⟩
        ·have d0:decide (0<p)=true:=decide_eq_true (by omega)
         have d1:decide ((p:Int)>0)=true:=decide_eq_true (by omega)
         have d2:0<p:=by omega
         have hr:=order_lt hp8.out (p:=p-1) (by omega)
         have hpo:p-1<(intN o2).length:=by simp [intN,hol2.out]; omega
         have iP:=fun w'=>hO2.out.at.idx (p-1) hpo w'
         have cP:=hO2.out.at.cellD (p-1) hpo
         rw [intN_get (by rw [hol2.out]; omega)] at cP
         rw [show ((p-1:Nat):Int)=(p:Int)-1 by omega] at iP
         have hstep:=cntP_step (keyG X g) o2 p (by omega)
         rw [hqe,← hc] at hstep
         obtain ⟨r,hre⟩:∃ r,o2.getD (p-1) 0=r:=⟨_,rfl⟩
         rw [hre] at cP hr hstep
         obtain ⟨m2,i2,c2,h2⟩:=henv.row r hr
         obtain ⟨pP,hpP⟩:∃ a,valAt (.slice oa on oc) (p-1)=a:=⟨_,rfl⟩
         obtain ⟨p2,hp2⟩:∃ a,valAt (.slice ka kn kc) r=a:=⟨_,rfl⟩
         rw [hpP] at iP cP
         rw [hp2] at i2 c2
         obtain ⟨a2,n2,q2,rfl⟩:=h2.shape
         have wrP:IntKind.i64.wrap ((p:Int)-1)=(p:Int)-1:=wrapK (by omega) (by omega)
         have hEq:∀ m,Calls Tryz.prog 121 #[.slice a1 n1' q1,.slice a2 n2 q2] (wi.drewN m) (RetB (decide (keyG X g q=keyG X g r)) (wi.drewN m)):=fun m=>equal_any _ _ _ _ (wi.drewN m) h1 h2
         replace hEq:=Hd hEq
         replace hc:=Hd hc
         replace h1:=Hd h1
         replace h2:=Hd h2
         replace henv:=Hd henv
         clear hpP hp2 hre
         by_cases hkk:keyG X g q=keyG X g r
         ·rw [if_pos hkk,Nat.add_zero] at hstep
          rw [decide_eq_true hkk] at hEq
          replace hkk:=Hd hkk
          replace hstep:=Hd hstep
          go_wp2
          go_quiet ((go_at_call 121; exact Calls.quiet_of (RetB.quiet (hEq.out _))))
          go_wp2
          go_roundw
          case measure=>simp [intOf]; omega
          case rel =>
           obtain ⟨f2',x2,r1,r2,r3,r4,r5,r6⟩:=hfin.out nq c (by rw [hstep.out])
           exact ⟨p+1,c,f2',x2,rfl,by go_num,by omega,by rw [cntP_succ,hstep.out],r1,r2,r3,r4,r5,r6⟩
         ·rw [if_neg hkk] at hstep
          rw [decide_eq_false hkk] at hEq
          replace hkk:=Hd hkk
          replace hstep:=Hd hstep
          go_wp2
          go_quiet ((go_at_call 121; exact Calls.quiet_of (RetB.quiet (hEq.out _))))
          go_wp2
          go_roundw
          case measure=>simp [intOf]; omega
          case rel =>
           obtain ⟨f2',x2,r1,r2,r3,r4,r5,r6⟩:=hfin.out nq ((c:Int)+1) (by rw [hstep.out]; rfl)
           exact ⟨p+1,c+1,f2',x2,by go_num,by go_num,by omega,by rw [cntP_succ,hstep.out],r1,r2,r3,r4,r5,r6⟩
       ·obtain rfl:N=p:=by omega
        have di':decide ((N:Int)<(N:Int))=false:=decide_eq_false (by omega)
        obtain ⟨hG2,hGP⟩:=scan_end n1 hSK.out hSc
        obtain ⟨N',hN'⟩:∃ N',N=N'+1:=⟨N-1,by omega⟩
        have hc2:c=cntS (keyG X g) o2 (N-1):=by rw [hc,hN',cntP_succ]; rfl
        rw [← hc2] at hG2
        have hcp:c≤4096:=by have:=hG2.small; omega
        have hmore:=parted_more hG.out hG2 hGP
        obtain ⟨hRn,hPn⟩:=hP'.next (w':=wi.setCell ⟨gb,0,none⟩ (.slice xa xn xc)) hR' h3
        have cG:=hR'.cell hP'.box (g:=gb) (cap:=1) rfl 0 (show 0<1*1 by decide)
        replace cG:wi.cell? ⟨gb,0,none⟩=some (.slice wa wn wc):=cG
        have zG:=hR'.frozen hP'.box (g:=gb) (cap:=1) rfl 0
        have hBn:=hB'.setCell (show w0.heap.size≤(⟨gb,0,none⟩:Addr).block from (hR'.lt hP'.box gb rfl).1) (.slice xa xn xc)
        have cG2:=World.cell?_setCell_same wi ⟨gb,0,none⟩ (.slice xa xn xc) cG
        have hfin:IntsAt (wi.setCell ⟨gb,0,none⟩ (.slice xa xn xc)) (.slice xa xn xc) x:=(hRn.ownI hPn.grp).at
        have hstab:c+1=n→Stable K N X x:=fun e=>by subst e; exact parted_stable ok.out hG.out hG2 hGP
        have hBE:=Below.step b0 hBn
        replace hRn:=Hd hRn
        replace hPn:=Hd hPn
        replace hfin:=Hd hfin
        replace hstab:=Hd hstab
        replace hG2:=Hd hG2
        replace hc:=Hd hc
        replace hc2:=Hd hc2
        replace hSc:=Hd hSc
        replace hGP:=Hd hGP
        replace hN':=Hd hN'
        have hle:=hmore.1
        clear hmore hR' hP' hK' h3 hB'
        by_cases hcn:c+1=n
        ·have hcn2:(((c:Int)+1)==(n:Int))=true:=by rw [beq_iff_eq]; omega
         go_wp2
         go_ret
         exact ⟨_,rfl,hBE,x,_,hfin.out,hG2.out,hstab.out hcn⟩
        ·have hcn2:(((c:Int)+1)==(n:Int))=false:=by rw [beq_eq_false_iff_ne]; omega
         go_wp2
         go_roundw
         case measure=>simp [intOf]; omega
         case rel=>exact ⟨c+1,_,_,_,_,by go_num,hG2.out,hp8.out,hRn.out,hPn.out,hBn⟩
end Go.Proofs.YtkaoebokbfcmhaaGreatDoor
namespace Go.Proofs.YtkaoebokbfcmhaaGreatDoor
open Go.RowKit
set_option maxRecDepth 100000
abbrev boxN (T:TypeId) (n g:Nat) (cs:List Value):Row:=⟨T,n,.slice (some ⟨g,0,none⟩) 1 1,1,cs⟩
theorem Rows.mkN {B:Nat} {w:World} {f:Names} (i:Nat×Nat) (h:Rows B w f) (hB:B≤w.heap.size) (T:TypeId) (n:Nat) (cs:Array Value) (hs:cs.size=n) :
 ∃ f',Rows B (w.alloc (.cells cs T)) f'∧f' i=some (boxN T n w.heap.size cs.toList)∧∀ j,j≠i→f' j=f j :=
 h.addE i (r':=boxN T n w.heap.size cs.toList) (belowAlloc w _) (World.ownsRow_lit (base:=B) (e:=T) (size:=n) w cs 1 hB (by unfold maxLen; omega) (by rw [hs]; omega)) (fun k hk=>by cases hk; exact Nat.le_refl _)
section
variable {B:Nat} {w:World} {f:Names} {i:Nat×Nat} {T:TypeId} {n g:Nat} {cs:List Value}
theorem Rows.cellN (h:Rows B w f) (hi:f i=some (boxN T n g cs)) (k:Nat) (hk:k<n):w.cell? ⟨g,k,none⟩=cs[k]?:=h.cell hi (g:=g) (cap:=1) rfl k (show k<1*n by omega)
theorem Rows.frzN (h:Rows B w f) (hi:f i=some (boxN T n g cs)) (k:Nat):w.frozen? ⟨g,k,none⟩=false:=h.frozen hi (g:=g) (cap:=1) rfl k
theorem Rows.lowN (h:Rows B w f) (hi:f i=some (boxN T n g cs)):B≤g∧g<w.heap.size:=h.lt hi g rfl
theorem Rows.stN (h:Rows B w f) (hi:f i=some (boxN T n g cs)) (k:Nat) (y:Value):∃ f',Rows B (w.setCell ⟨g,k,none⟩ y) f'∧f' i=some (boxN T n g (cs.set k y))∧∀ j,j≠i→f' j=f j :=
 ⟨_,h.set hi (g:=g) (cap:=1) rfl k y,upd_same _ _ _,fun _ e=>upd_ne _ _ e⟩
end
def LkAt (B:Nat) (w:World) (b x e o:Nat) (rs cs es zs:List Value) (ov fv:Value) (ol fl:List Int):Prop :=
 ∃ f,Rows B w f∧f (40,0)=some (boxN 62 9 x cs)∧f (41,0)=some (boxN 116 5 e es)∧f (42,0)=some (boxN 62 9 o zs)∧f (43,0)=some (rowI ov ol)∧f (44,0)=some (rowI fv fl)∧f (45,0)=some (boxN 24 3 b rs)
section
variable {B:Nat} {w:World} {b x e o:Nat} {rs cs es zs:List Value} {ov fv:Value} {ol fl:List Int}
theorem LkAt.below {w':World} (h:LkAt B w b x e o rs cs es zs ov fv ol fl) (hb:Below w.heap.size w w'):LkAt B w' b x e o rs cs es zs ov fv ol fl:=by
 obtain ⟨f,hR,r⟩:=h
 exact ⟨f,hR.below hb,r⟩
theorem LkAt.low (h:LkAt B w b x e o rs cs es zs ov fv ol fl):B≤x∧B≤e∧B≤o:=by
 obtain ⟨f,hR,n0,n1,n2,-,-,-⟩:=h
 exact ⟨(hR.lowN n0).1,(hR.lowN n1).1,(hR.lowN n2).1⟩
theorem LkAt.orphan {w':World} {v:Value} {l:List Int} (h:LkAt B w b x e o rs cs es zs ov fv ol fl) (hb:Below w.heap.size w w') (hB:B≤w.heap.size) (ho:OwnI w.heap.size w' v l):LkAt B w' b x e o rs cs es zs v fv l fl:=by
 obtain ⟨f,hR,n0,n1,n2,n3,n4,n5⟩:=h
 obtain ⟨f',hR',m0,o'⟩:=hR.addE (43,0) (r':=rowI v l) hb (ho.mono hB) (fun k hk=>(ho.lt k hk).1)
 exact ⟨f',hR',(o' _ (by decide)).trans n0,(o' _ (by decide)).trans n1,(o' _ (by decide)).trans n2,m0,(o' _ (by decide)).trans n4,(o' _ (by decide)).trans n5⟩
theorem LkAt.lists (h:LkAt B w b x e o rs cs es zs ov fv ol fl):OwnI B w ov ol∧OwnI B w fv fl∧(ov.ownBlock=none∨ov.ownBlock≠fv.ownBlock):=by
 obtain ⟨f,hR,n0,n1,n2,n3,n4,n5⟩:=h
 exact ⟨hR.ownI n3,hR.ownI n4,hR.2 (43,0) (44,0) _ _ n3 n4 (by decide)⟩
end
end Go.Proofs.YtkaoebokbfcmhaaGreatDoor
namespace Go.Proofs.YtkaoebokbfcmhaaGreatDoor
open Go.RowKit Go.Maps
set_option maxRecDepth 100000
set_option maxHeartbeats 8000000
theorem NumMap.lookIs {w:World} {b n s:Nat} {M:Int→Option Int} (h:NumMap w b n M s) (k x:Int) (hk:(Lit.int .i64 k).wf=true) (hx:M k=some x) :
 (Instr.lookup 218 (.map (some b)) (.int .i64 k) true).run Tryz.prog w=.ok (.tuple #[.int .i64 x,.bool true]) w:=by
 obtain ⟨D,h1,_,h3⟩:=h
 obtain ⟨v,ps,hr,hv⟩:=h1.look_ok keyedN uMapN (zeroN w) (plainElem_int uIntN (by decide)) (keyOf_int_mk uIntN hk)
 obtain ⟨c,rfl,hz,_⟩:=plainElem_int_inv uIntN hv
 have e:=(h3 k hk).2 x hx
 injection hz with hz _
 rw [hz] at e
 injection e with e
 injection e with _ e
 rw [hr,(h3 k hk).1,hx,e]; rfl
theorem NumMap.lookNo {w:World} {b n s:Nat} {M:Int→Option Int} (h:NumMap w b n M s) (k:Int) (hk:(Lit.int .i64 k).wf=true) (hx:M k=none) :
 ∃ c:Int,(Instr.lookup 218 (.map (some b)) (.int .i64 k) true).run Tryz.prog w=.ok (.tuple #[.int .i64 c,.bool false]) w:=by
 obtain ⟨c,hc⟩:=h.lookOk k hk
 rw [hx] at hc
 exact ⟨c,hc⟩
theorem mapG_new {g:List Int} {st:List Nat} {t:Nat} (h:g.getD t 0∉grpL g st):updM (mapG g st) (g.getD t 0) (st.length:Nat)=mapG g (st++[t]):=by
 rw [← mapG_more h]
 funext v
 unfold updM
 split<;>simp_all
structure LsAt (B:Nat) (w:World) (f:Names) (ob mb K:Nat) (g:List Int) (st:List Nat) (Y:List (List Int)) (sv yv:Value) (yvs:List Value):Prop where
 box:f (0,0)=some (boxN 54 2 ob [.int .i64 K,yv])
 sts:f (1,0)=some (rowI sv (intN st))
 rows:ListsIn f 2 yv yvs Y
 map:NumMap w mb st.length (mapG g st) st.length
 mb0:B≤mb
section
variable {B:Nat} {w w':World} {f:Names} {ob mb K:Nat} {g:List Int} {st:List Nat} {Y:List (List Int)} {sv yv:Value} {yvs:List Value}
theorem NumMap.below {b n s:Nat} {M:Int→Option Int} (h:NumMap w b n M s) (hb:Below w.heap.size w w'):NumMap w' b n M s :=
 h.kept (below_grows hb none) (by intro e; cases e)
theorem LsAt.below (h:LsAt B w f ob mb K g st Y sv yv yvs) (hb:Below w.heap.size w w'):LsAt B w' f ob mb K g st Y sv yv yvs :=
 ⟨h.box,h.sts,h.rows,h.map.below hb,h.mb0⟩
theorem LsAt.congr {f':Names} (h:LsAt B w f ob mb K g st Y sv yv yvs) (e:∀ j:Nat×Nat,j.1≠4→f' j=f j):LsAt B w f' ob mb K g st Y sv yv yvs :=
 ⟨(e _ (by decide)).trans h.box,(e _ (by decide)).trans h.sts,h.rows.congr fun j hj=>e j (by omega),h.map,h.mb0⟩
theorem LsAt.kept {f':Names} (h:LsAt B w f ob mb K g st Y sv yv yvs) (hR:Rows B w f) {i:Nat×Nat} {r:Row} (hi:f i=some r) (hi4:i.1=4) (he:ElseSame f f' i) (hg:w.grownBy w' r.v.ownBlock):LsAt B w' f' ob mb K g st Y sv yv yvs:=by
 have hc:=h.congr (f':=f') fun j hj=>he j (by intro e; subst e; exact hj hi4)
 obtain ⟨es,cl,hb⟩:=h.map.blk
 exact ⟨hc.box,hc.sts,hc.rows,h.map.kept hg (fun e=>hR.not_map hi hb e.symm),h.mb0⟩
theorem LsAt.cells (h:LsAt B w f ob mb K g st Y sv yv yvs) (hR:Rows B w f):w.cell? ⟨ob,0,none⟩=some (.int .i64 K)∧w.cell? ⟨ob,1,none⟩=some yv∧w.frozen? ⟨ob,1,none⟩=false :=
 ⟨hR.cellN h.box 0 (by decide),hR.cellN h.box 1 (by decide),hR.frzN h.box 1⟩
theorem LsAt.lists (h:LsAt B w f ob mb K g st Y sv yv yvs) (hR:Rows B w f):ListsAt w yv Y :=
 ⟨yvs,(hR.ownV h.rows.out).at,h.rows.len,fun i hi=>by
   have:i<yvs.length:=by rw [h.rows.len]; exact hi
   have ev:vAt yvs i=yvs.getD i .nilIface:=by simp [vAt,List.getD,this]
   rw [ev]
   exact (hR.ownI (h.rows.each i hi)).at⟩
end
theorem lists_in {B:Nat} {w:World} {f:Names} {p:Nat} {v:Value} {vs:List Value} {xs:List (List Int)} (h:ListsIn f p v vs xs) (hR:Rows B w f):ListsAt w v xs :=
 ⟨vs,(hR.ownV h.out).at,h.len,fun i hi=>by
   have:i<vs.length:=by rw [h.len]; exact hi
   have ev:vAt vs i=vs.getD i .nilIface:=by simp [vAt,List.getD,this]
   rw [ev]
   exact (hR.ownI (h.each i hi)).at⟩
theorem rows_mono {B B':Nat} {w:World} {f:Names} (h:Rows B w f) (hB:B'≤B):Rows B' w f :=
 ⟨fun i r hi=>by
   have ho:=h.1 i r hi
   refine ⟨ho.1,?_⟩
   rcases ho.2 with h2 | ⟨g,cap,cur,e,hb,rest⟩
   ·exact .inl h2
   ·exact .inr ⟨g,cap,cur,e,Nat.le_trans hB hb,rest⟩,h.2⟩
theorem Rows.storeLow {B:Nat} {w:World} {f:Names} (h:Rows B w f) {a:Addr} (ha:a.block<B) (v:Value):Rows B (w.setCell a v) f :=
 ⟨fun i r hi=>World.ownsRow.kept (h.1 i r hi) (row:=some a.block) ⟨rfl,rfl,rfl,by simp [World.setCell],fun k _ hk=>Below.heap_setCell _ _ _ _ (by intro e; exact hk (by rw [e]))⟩ (by right; intro e; have:=(h.lt hi _ e).1; omega),h.2⟩
def FreshL (B:Nat) (w:World) (v:Value) (Y:List (List Int)):Prop:=∃ f vs,Rows B w f∧ListsIn f 2 v vs Y
theorem FreshL.lists {B:Nat} {w:World} {v:Value} {Y:List (List Int)} (h:FreshL B w v Y):ListsAt w v Y:=by
 obtain ⟨f,vs,h1,h2⟩:=h
 exact lists_in h2 h1
theorem FreshL.store {B:Nat} {w:World} {v:Value} {Y:List (List Int)} (h:FreshL B w v Y) {a:Addr} (ha:a.block<B) (u:Value):FreshL B (w.setCell a u) v Y:=by
 obtain ⟨f,vs,h1,h2⟩:=h
 exact ⟨f,vs,h1.storeLow ha u,h2⟩
theorem FreshL.mono {B B':Nat} {w:World} {v:Value} {Y:List (List Int)} (h:FreshL B w v Y) (hB:B'≤B):FreshL B' w v Y:=by
 obtain ⟨f,vs,h1,h2⟩:=h
 exact ⟨f,vs,rows_mono h1 hB,h2⟩
theorem FreshL.shape {B:Nat} {w:World} {v:Value} {Y:List (List Int)} (h:FreshL B w v Y):∃ a n c,v=.slice a n c:=by
 obtain ⟨f,vs,h1,h2⟩:=h
 exact (h1.ownV h2.out).shape
theorem intN_snoc (o:List Nat) (x:Nat):intN (o++[x])=intN o++[(x:Int)]:=by simp [intN]
theorem row_put {RW xs:List Int} {s:Nat} {x:Int} (h:RW.length=s) (hs:s<xs.length):(RW++xs.drop s).set s x=(RW++[x])++xs.drop (s+1):=by
 rw [List.set_append,if_neg (by omega),h,Nat.sub_self,List.drop_eq_getElem_cons hs,List.set_cons_zero]
 simp
theorem row_stay {RW xs:List Int} {s:Nat} (hs:s<xs.length):RW++xs.drop s=(RW++[xs.getD s 0])++xs.drop (s+1):=by
 rw [List.drop_eq_getElem_cons hs]
 simp [List.getD,hs]
theorem row_cur {RW xs:List Int} {s:Nat} (h:RW.length=s) (hs:s<xs.length):(RW++xs.drop s).getD s 0=xs.getD s 0:=by
 rw [List.getD_eq_getElem?_getD,List.getElem?_append_right (by omega),h,Nat.sub_self]
 simp [List.getD,hs]
theorem img_least {K N:Nat} (nv:Value) (X:List (List Int)) (w:World) (hX:ListsAt w nv X) (ok:AutoOk K N X) (hKm:K≤1000) (hN:N≤4096) :
 Calls Tryz.prog 111 #[.agg #[.int .i64 K,nv]] w (Ret1 (fun v w'=>∃ g st Y yv,v=.agg #[.int .i64 K,yv]∧FreshL w.heap.size w' yv Y∧Stable K N X g∧LeastOf K N X g st Y∧st.length≤N) w):=by
 obtain ⟨na,nc,rfl⟩:=hX.shape
 have hXl:=ok.len
 have n1:=ok.n1
 rw [hXl] at hX ⊢
 have b0:=belowAlloc w (.cells #[.int .i64 K,.slice na N nc] 54)
 have ca0:(w.alloc (.cells #[.int .i64 K,.slice na N nc] 54)).cell? ⟨w.heap.size,0,none⟩=some (.int .i64 K):=by simp [go_sem]
 have ca:(w.alloc (.cells #[.int .i64 K,.slice na N nc] 54)).cell? ⟨w.heap.size,1,none⟩=some (.slice na N nc):=by simp [go_sem]
 obtain ⟨w0,hw0⟩:∃ W:World,w.alloc (.cells #[.int .i64 K,.slice na N nc] 54)=W:=⟨_,rfl⟩
 rw [hw0] at b0 ca ca0
 obtain ⟨ab,hab⟩:∃ ab,w.heap.size=ab:=⟨_,rfl⟩
 rw [hab] at ca ca0
 have hsz0:w0.heap.size=ab+1:=by rw [← hw0,← hab]; simp
 replace hX:=Hd (hX.below b0)
 replace ok:=Hd ok
 replace hw0:=Hd hw0
 replace hab:=Hd hab
 replace hXl:=Hd hXl
 go_enter Tryz.func111,Tryz.ntmps111
 go_upto_region 1 with fail
 have b1:=belowAlloc w0 (.cells #[.int .i64 0,.slice none 0 0] 54)
 have ra0:(w0.alloc (.cells #[.int .i64 0,.slice none 0 0] 54)).cell? ⟨w0.heap.size,0,none⟩=some (.int .i64 0):=by simp [go_sem]
 have ra1:(w0.alloc (.cells #[.int .i64 0,.slice none 0 0] 54)).cell? ⟨w0.heap.size,1,none⟩=some (.slice none 0 0):=by simp [go_sem]
 have rf0:(w0.alloc (.cells #[.int .i64 0,.slice none 0 0] 54)).frozen? ⟨w0.heap.size,0,none⟩=false:=by simp [go_sem]
 have rf1:(w0.alloc (.cells #[.int .i64 0,.slice none 0 0] 54)).frozen? ⟨w0.heap.size,1,none⟩=false:=by simp [go_sem]
 have rlow:=b0.size
 obtain ⟨w1,hw1⟩:∃ W:World,w0.alloc (.cells #[.int .i64 0,.slice none 0 0] 54)=W:=⟨_,rfl⟩
 obtain ⟨rb,hrb⟩:∃ rb,ab+1=rb:=⟨_,rfl⟩
 rw [hw1] at b1 ra0 ra1 rf0 rf1
 rw [hsz0,hrb] at ra0 ra1 rf0 rf1 rlow
 replace hsz0:=Hd hsz0
 have cb0:=cell_keep b1 ca0
 have cb1:=cell_keep b1 ca
 have hlt:rb<w1.heap.size:=World.block_lt_of_cell? _ _ ra0
 have hpart:=img_parted _ X w1 (hX.out.below b1) ok.out hKm hN
 replace hpart:=Hd hpart
 replace hw1:=Hd hw1
 replace hrb:=Hd hrb
 rw [hw0.out,hw1.out,hab.out,hrb.out]
 go_wp2_with fail
 refine hpart.out.mono ?_
 rintro e w2 ⟨gv,rfl,b2,g,ng,hgI,hG,hst⟩
 obtain ⟨ga,gn,gc,rfl⟩:=hgI.shape
 have ra0':=Hd (cell_keep b2 ra0)
 have ra1':=Hd (cell_keep b2 ra1)
 have hs2:=b2.size
 have hgl:=hG.len
 have i0:∀ w',(Instr.indexAt 22 (.slice ga gn gc) (.int .i64 0)).run Tryz.prog w'=.ok (.pointer (some (valAt (.slice ga gn gc) 0))) w':=fun w'=>hgI.idx 0 (by omega) w'
 have c0:=hgI.cellD 0 (by omega)
 have hg0:=hG.bd 0 n1
 have hgn:=hG.small
 obtain ⟨g0,hg0e⟩:∃ x,g.getD 0 0=x:=⟨_,rfl⟩
 rw [hg0e] at c0 hg0
 have hwf0:(Lit.int .i64 g0).wf=true:=WalkArith.wf_i64 (by omega)
 have mk2:(Instr.makeMap 218 none).run Tryz.prog w2=.ok (.map (some w2.heap.size)) (w2.alloc (.map #[] 0)):=rfl
 have bm:=belowAlloc w2 (.map #[] 0)
 obtain ⟨w3,hst3,hM3,hg3⟩:=(NumMap.made w2).store g0 0 hwf0 (by decide) rfl (by decide)
 have hMe:updM (fun _=>none) g0 0=mapG g [0]:=by
  have:=mapG_new (g:=g) (st:=[]) (t:=0) (by simp [grpL])
  rw [hg0e] at this
  exact this
 rw [hMe] at hM3
 have b3:Below w2.heap.size w2 w3:=bm.grown hg3 bm.size (fun k hk=>by cases hk; exact Nat.le_refl _)
 obtain ⟨pg,hpg⟩:∃ p,valAt (.slice ga gn gc) 0=p:=⟨_,rfl⟩
 rw [hpg] at i0 c0
 have c0':=(bm.cell (World.block_lt_of_cell? _ _ c0)).trans c0
 replace hst3:=Hd hst3
 replace hgI:=Hd hgI
 replace hG:=Hd hG
 replace hst:=Hd hst
 replace hM3:=Hd hM3
 replace hpart:=Hd hpart
 replace ca0:=Hd ca0
 clear cb0 cb1 c0 hg3 hMe ra0 ra1
 have mst3:=hst3.out
 replace hst3:=Hd hst3
 go_upto_region 3 with fail
 have hs3:=b3.size
 have hR3:=(Rows.void w2.heap.size w2).below b3
 have hR4:=hR3.add (i:=(1,0)) (r':=rowI (.slice (some ⟨w3.heap.size,0,none⟩) 1 1) (intN [0])) (belowAlloc w3 (.cells #[.int .i64 0] 3))
  (by
    have:=World.ownsRow_lit (base:=w2.heap.size) (e:=3) (size:=1) w3 #[.int .i64 0] 1 hs3 (by decide) rfl
    unfold Row.own
    simpa using this) (fun k hk=>by cases hk; exact Nat.le_refl _)
 have b4:Below w3.heap.size w3 (w3.alloc (.cells #[.int .i64 0] 3)):=belowAlloc _ _
 obtain ⟨w4,hw4⟩:∃ W:World,w3.alloc (.cells #[.int .i64 0] 3)=W:=⟨_,rfl⟩
 rw [hw4] at hR4 b4
 have hs4:=b4.size
 have hb4k:=b4
 obtain ⟨f5,hR5,n00,o5⟩:=hR4.mkN (0,0) (by omega) 54 2 #[.int .i64 K,.slice none 0 0] rfl
 have b5:Below w4.heap.size w4 (w4.alloc (.cells #[.int .i64 K,.slice none 0 0] 54)):=belowAlloc _ _
 obtain ⟨w5,hw5⟩:∃ W:World,w4.alloc (.cells #[.int .i64 K,.slice none 0 0] 54)=W:=⟨_,rfl⟩
 obtain ⟨ob,hob⟩:∃ ob,w4.heap.size=ob:=⟨_,rfl⟩
 obtain ⟨sb,hsb⟩:∃ sb,w3.heap.size=sb:=⟨_,rfl⟩
 obtain ⟨mb,hmb⟩:∃ mb,w2.heap.size=mb:=⟨_,rfl⟩
 rw [hw5] at hR5 b5
 rw [hob] at n00
 have n10:f5 (1,0)=some (rowI (.slice (some ⟨sb,0,none⟩) 1 1) (intN [0])):=by rw [o5 _ (by decide),upd_same,hsb]
 have b35:=b4.trans (b5.mono hs4)
 have b25:=b3.trans (b35.mono hs3)
 have hR6:=hR5.add (i:=(2,0)) (r':=rowV 22 (.slice none 0 0) []) (Below.refl _ _) (OwnV.nil _ _ _) (fun k hk=>by cases hk)
 have hLs:LsAt w2.heap.size w5 (upd f5 (2,0) (some (rowV 22 (.slice none 0 0) []))) ob mb K g [0] [] (.slice (some ⟨sb,0,none⟩) 1 1) (.slice none 0 0) [] :=
  ⟨by rw [upd_ne _ _ (by decide)]; exact n00,by rw [upd_ne _ _ (by decide)]; exact n10,⟨upd_same _ _ _,rfl,fun i hi=>absurd hi (Nat.not_lt_zero _)⟩,by rw [← hmb]; exact hM3.out.below b35,by omega⟩
 have hkp:Kept N g [0]:=⟨by simp,rfl,fun q hq=>by rw [List.mem_singleton] at hq; subst hq; exact n1,by simp [grpL]⟩
 have hgo:lsGo X g K (N+1-0) 0 [0] []=lsR X g K N:=rfl
 replace hR6:=Hd hR6
 replace hLs:=Hd hLs
 replace hkp:=Hd hkp
 replace hgo:=Hd hgo
 replace hw4:=Hd hw4
 replace hw5:=Hd hw5
 replace hob:=Hd hob
 replace hsb:=Hd hsb
 replace hmb:=Hd hmb
 have ca04:=cell_keep (Below.step b1 (Below.step b2 (Below.step b3 hb4k))) ca0.out
 clear hR3 hR4 hR5 n00 n10 o5 hM3 b4 b5 bm mst3 hst3 hb4k
 go_upto_region 4 with fail
 rw [hmb.out,hsb.out,hw4.out]
 go_upto_region 5 with fail
 rw [hob.out,hw5.out]
 clear ca04
 have hXl2:=Hd hXl.out
 go_wp2
 go_loopw [5,7] (fun sv iv wr=>∃ (i:Nat) (st:List Nat) (Y:List (List Int)) (f:Names) (sw yv:Value) (yvs:List Value),sw=sv∧iv=.int .i64 i∧i≤st.length∧Y.length=i∧Kept N g st∧lsGo X g K (N+1-i) i st Y=lsR X g K N∧Rows w2.heap.size wr f∧LsAt w2.heap.size wr f ob mb K g st Y sw yv yvs∧Below w2.heap.size w2 wr) (fun _ iv _=>N+1-(intOf iv).toNat)
 case atStart=>exact ⟨0,_,_,_,_,_,_,rfl,rfl,Nat.zero_le _,rfl,hkp.out,hgo.out,hR6.out,hLs.out,b25⟩
 case round =>
  clear hR6 hLs hkp hgo b25 b35
  obtain ⟨i,st,Y,f,sw,yv,yvs,rfl,rfl,hi,hYl,hkp,hgo,hR,hL,hB⟩:=hrel
  obtain ⟨wo,rfl⟩:∃ wo:World,wo=wr:=⟨_,rfl⟩
  have hsm:=hkp.small
  have hSo:=(hR.ownI hL.sts).at
  have lS:=fun w=>hSo.len w
  have hil:(intN st).length=st.length:=by simp [intN]
  rw [hil] at lS
  obtain ⟨sa,sn,sc,rfl⟩:=hSo.shape
  obtain ⟨ya,yn,yc,rfl⟩:=(hR.ownV hL.rows.out).shape
  by_cases his:i<st.length
  ·have di:decide ((i:Int)<(st.length:Int))=true:=decide_eq_true (by omega)
   rw [lsGo_round his hsm] at hgo
   obtain ⟨W,hW⟩:∃ W:World,wo.drew=W:=⟨_,rfl⟩
   have hRW:Rows w2.heap.size W f:=by rw [← hW]; exact hR.drew
   have hLW:LsAt w2.heap.size W f ob mb K g st Y (.slice sa sn sc) (.slice ya yn yc) yvs:=by
    have:=hL.below (w':=W) (by rw [← hW]; exact (Below.refl _ _).drew)
    exact this
   have hBW:Below w2.heap.size w2 W:=by rw [← hW]; exact hB.drew
   have hb0W:=Below.step b1 (Below.step b2 hBW)
   have hcA:W.cell? ⟨ab,1,none⟩=some (.slice na N nc):=cell_keep hb0W ca
   have hq:=hkp.at his
   have hSW:=(hRW.ownI hLW.sts).at
   have iS:=fun w'=>hSW.idx i (by rw [hil]; exact his) w'
   have cS:=hSW.cellD i (by rw [hil]; exact his)
   rw [intN_get his] at cS
   obtain ⟨q,hqe⟩:∃ q,st.getD i 0=q:=⟨_,rfl⟩
   rw [hqe] at cS hq hgo
   obtain ⟨mv,iX,cX,hM⟩:=(hX.out.below hb0W).row q (by rw [hXl.out]; exact hq)
   have hrl:=ok.out.row q hq
   have hxlo:∀ s,s<K→-1≤(X.getD q []).getD s 0:=fun s hs=>ok.out.lo q s hq hs
   have hxhi:∀ s,s<K→(X.getD q []).getD s 0<N:=fun s hs=>ok.out.hi q s hq hs
   obtain ⟨xs,hxs⟩:∃ xs,X.getD q []=xs:=⟨_,rfl⟩
   rw [hxs] at hM hrl hxlo hxhi hgo
   have hcl:=clone_any mv xs W hM (by omega)
   obtain ⟨ma,mn,mc,rfl⟩:=hM.shape
   obtain ⟨pS,hpS⟩:∃ p,valAt (.slice sa sn sc) i=p:=⟨_,rfl⟩
   obtain ⟨pX,hpX⟩:∃ p,valAt (.slice na N nc) q=p:=⟨_,rfl⟩
   rw [hpS] at iS cS
   rw [hpX] at iX cX
   have hS:W.cell? ⟨ab,1,none⟩=some (.slice na N nc)∧W.cell? pS=some (.int .i64 (q:Int))∧W.cell? pX=some (.slice ma mn mc):=⟨hcA,cS,cX⟩
   replace hcl:=Hd hcl
   replace hRW:=Hd hRW
   replace hLW:=Hd hLW
   replace hBW:=Hd hBW
   replace hW:=Hd hW
   replace hgo:=Hd hgo
   replace hkp:=Hd hkp
   replace hxlo:=Hd hxlo
   replace hxhi:=Hd hxhi
   replace hrl:=Hd hrl
   replace hYl:=Hd hYl
   replace hil:=Hd hil
   clear hR hL hB hSo hSW hM hcA cS cX hb0W hxs hpS hpX hqe
   go_upto_region 8 with fail
   refine wp_region_plan (fun w'=>w'.cell? ⟨ab,1,none⟩=some (.slice na N nc)∧w'.cell? pS=some (.int .i64 (q:Int))∧w'.cell? pX=some (.slice ma mn mc)) 9 [(0,true),(1,true),(2,true),(3,true),(4,true),(5,true),(6,true),(7,true),(8,false)] (by kernel_rfl) (by kernel_rfl) ?_
   rw [hW.out]
   refine pqY 30 hS ?_
   refine pqY 31 hS ?_
   refine pqY 32 hS ?_
   refine pqY 33 hS ?_
   refine pqY 34 hS ?_
   refine pqY 35 hS ?_
   refine pqY 36 hS ?_
   refine pqY 37 hS ?_
   refine headC rfl (fun KK hK=>?_)
   go_simp
   refine hcl.out.mono ?_
   rintro e w6 ⟨rv,rfl,b6,hrv⟩
   have hS6:w6.cell? ⟨ab,1,none⟩=some (.slice na N nc)∧w6.cell? pS=some (.int .i64 (q:Int))∧w6.cell? pX=some (.slice ma mn mc):=⟨cell_keep b6 hS.1,(b6.cell (World.block_lt_of_cell? _ _ hS.2.1)).trans hS.2.1,(b6.cell (World.block_lt_of_cell? _ _ hS.2.2)).trans hS.2.2⟩
   have hsW:=hBW.out.size
   have hR6:=hRW.out.add (i:=(4,0)) (r':=rowI rv xs) b6 (hrv.mono hsW) (fun k hk=>(hrv.lt k hk).1)
   have hL6:=(hLW.out.below b6).congr (f':=upd f (4,0) (some (rowI rv xs))) (fun j hj=>upd_ne _ _ (by intro e; exact hj (by rw [e])))
   have hB6:=hBW.out.trans (b6.mono hsW)
   have lR:=fun w'=>hrv.at.len w'
   rw [hrl.out] at lR
   obtain ⟨ra,rn,rc,rfl⟩:=hrv.at.shape
   replace hR6:=Hd hR6
   replace hL6:=Hd hL6
   clear hrv b6 hcl
   refine hK _ _ hS6 ?_
   clear hK KK
   refine head0 ?_
   simp only [List.drop_succ_cons,List.drop_zero]
   clear hS hS6
   go_wp2
   refine NoPanic.normal ?_
   go_wp2
   go_loopw [5,41] (fun sv jv wr=>∃ (s:Nat) (f:Names) (sw:Value),sw=sv∧jv=.int .i64 s∧s≤K∧Rows w2.heap.size wr f∧LsAt w2.heap.size wr f ob mb K g (lsRow g xs s st).2 Y sw (.slice ya yn yc) yvs∧f (4,0)=some (rowI (.slice ra rn rc) ((lsRow g xs s st).1++xs.drop s))∧Below w2.heap.size w2 wr) (fun _ jv _=>K-(intOf jv).toNat)
   case atStart=>exact ⟨0,_,_,rfl,rfl,Nat.zero_le _,hR6.out,hL6.out,upd_same _ _ _,hB6⟩
   case round =>
    clear hR6 hL6 hB6
    obtain ⟨s,f',uw,rfl,rfl,hs,hR',hL',h4,hB'⟩:=hrel
    obtain ⟨wi,rfl⟩:∃ wo:World,wo=wr:=⟨_,rfl⟩
    have hka:=(lsRow_kept (xs:=xs) hkp.out s (fun t ht=>hxhi.out t (by omega))).1
    have hRl:=lsRow_len g xs st s
    have hsucc:=lsRow_succ g xs s st
    obtain ⟨RW,hRWe⟩:∃ R,(lsRow g xs s st).1=R:=⟨_,rfl⟩
    obtain ⟨ST,hSTe⟩:∃ R,(lsRow g xs s st).2=R:=⟨_,rfl⟩
    rw [hRWe] at h4 hRl hsucc
    rw [hSTe] at hL' hka hsucc
    have hown:=hR'.ownI hL'.sts
    obtain ⟨ua,un,uc,rfl⟩:=hown.at.shape
    by_cases hsK:s<K
    ·have dj:decide ((s:Int)<(K:Int))=true:=decide_eq_true (by omega)
     have hsx:s<xs.length:=by rw [hrl.out]; exact hsK
     have hlen4:s<(RW++xs.drop s).length:=by rw [List.length_append,List.length_drop,hRl]; omega
     have ht0:=hxlo.out s hsK
     have ht1:=hxhi.out s hsK
     have hstay:=row_stay (RW:=RW) hsx
     have hputr:∀ x,(RW++xs.drop s).set s x=(RW++[x])++xs.drop (s+1):=fun x=>row_put hRl hsx
     have hcur:=row_cur (RW:=RW) hRl hsx
     have iR:=fun w'=>(hR'.ownI h4).at.idx s hlen4 w'
     obtain ⟨pR,hpR⟩:∃ p,valAt (.slice ra rn rc) s=p:=⟨_,rfl⟩
     rw [hpR] at iR
     obtain ⟨t,hte⟩:∃ t,xs.getD s 0=t:=⟨_,rfl⟩
     rw [hte] at ht0 ht1 hstay hcur hsucc
     have hcell:∀ (W:World) (F:Names),Rows w2.heap.size W F→F (4,0)=some (rowI (.slice ra rn rc) (RW++xs.drop s))→W.cell? pR=some (.int .i64 t)∧W.frozen? pR=false:=fun W F hRF h4F=>by
      have c:=(hRF.ownI h4F).at.cellD s hlen4
      have z:=(hRF.ownI h4F).frz s hlen4
      rw [hcur,hpR] at c
      rw [hpR] at z
      exact ⟨c,z⟩
     have hput:∀ (W:World) (F:Names) (ST':List Nat) (sw':Value) (x:Int),Rows w2.heap.size W F→LsAt w2.heap.size W F ob mb K g ST' Y sw' (.slice ya yn yc) yvs→F (4,0)=some (rowI (.slice ra rn rc) (RW++xs.drop s))→Below w2.heap.size w2 W →
      ∃ F',Rows w2.heap.size (W.setCell pR (.int .i64 x)) F'∧LsAt w2.heap.size (W.setCell pR (.int .i64 x)) F' ob mb K g ST' Y sw' (.slice ya yn yc) yvs∧F' (4,0)=some (rowI (.slice ra rn rc) ((RW++[x])++xs.drop (s+1)))∧Below w2.heap.size w2 (W.setCell pR (.int .i64 x)):=fun W F ST' sw' x hRF hLF h4F hBF=>by
      have r1:=hRF.setI h4F s hlen4 x
      have gr:=(hRF.ownI h4F).toV.setGrown s (by rw [List.length_map]; exact hlen4) (.int .i64 x)
      have l1:=hLF.kept hRF h4F rfl (fun j e=>upd_ne _ _ e) gr (f':=upd F (4,0) (some (rowI (.slice ra rn rc) ((RW++xs.drop s).set s x))))
      have b1:=hBF.setCell ((hRF.ownI h4F).blkB s hlen4) (.int .i64 x)
      rw [hpR] at r1 l1 b1
      rw [hputr] at r1 l1
      exact ⟨_,r1,l1,upd_same _ _ _,b1⟩
     have hc0:=hcell wi f' hR' h4
     have cR:=hc0.1
     have zR:=hc0.2
     replace hcell:=Hd hcell
     replace hput:=Hd hput
     replace hputr:=Hd hputr
     replace hcur:=Hd hcur
     replace hRl:=Hd hRl
     replace hka:=Hd hka
     replace hlen4:=Hd hlen4
     replace hpR:=Hd hpR
     replace hte:=Hd hte
     replace hRWe:=Hd hRWe
     replace hSTe:=Hd hSTe
     clear hc0 hown
     by_cases htn:t<0
     ·have d2:decide (t<0)=true:=decide_eq_true htn
      rw [lsStep_neg htn] at hsucc
      rw [hstay] at h4
      have hfin:LsAt w2.heap.size wi f' ob mb K g (lsRow g xs (s+1) st).2 Y (.slice ua un uc) (.slice ya yn yc) yvs∧f' (4,0)=some (rowI (.slice ra rn rc) ((lsRow g xs (s+1) st).1++xs.drop (s+1))):=by
       rw [hsucc]; exact ⟨hL',h4⟩
      replace hfin:=Hd hfin
      replace hR':=Hd hR'
      replace hL':=Hd hL'
      replace h4:=Hd h4
      replace hsucc:=Hd hsucc
      replace hstay:=Hd hstay
      go_wp2
      go_roundw
      case measure=>simp [intOf]; omega
      case rel=>exact ⟨s+1,f',_,rfl,by go_num,by omega,hR'.out,hfin.out.1,hfin.out.2,hB'⟩
     ·have d2:decide (t<0)=false:=decide_eq_false htn
      obtain ⟨tn,rfl⟩:∃ tn:Nat,t=tn:=Int.eq_ofNat_of_zero_le (by omega)
      have htN:tn<N:=by omega
      have htg:tn<g.length:=by rw [hG.out.len]; exact htN
      have hgo2:=hgI.out.below hB'
      have iG:=fun w'=>hgo2.idx tn htg w'
      have cG:=hgo2.cellD tn htg
      have hbd:=hG.out.bd tn htN
      have hnew:=lsStep_new (g:=g) (st:=ST) htn
      have hold:=fun x=>lsStep_old (g:=g) (st:=ST) (x:=x) htn
      have hmn:=mapG_new (g:=g) (st:=ST) (t:=tn)
      rw [Int.toNat_natCast] at hnew hold
      obtain ⟨v,hve⟩:∃ v,g.getD tn 0=v:=⟨_,rfl⟩
      rw [hve] at cG hbd hnew hold hmn
      obtain ⟨pG,hpG⟩:∃ p,valAt (.slice ga gn gc) tn=p:=⟨_,rfl⟩
      rw [hpG] at iG cG
      have hwf:(Lit.int .i64 v).wf=true:=WalkArith.wf_i64 (by omega)
      replace hstay:=Hd hstay
      clear hgo2 hve hpG
      cases hm:mapG g ST v with
      | some x =>
       have hl1:=hL'.map.lookIs v x hwf hm
       rw [hold x hm] at hsucc
       obtain ⟨F',r1,l1,e1,b1'⟩:=hput.out wi f' ST (.slice ua un uc) x hR' hL' h4 hB'
       have hfin:LsAt w2.heap.size (wi.setCell pR (.int .i64 x)) F' ob mb K g (lsRow g xs (s+1) st).2 Y (.slice ua un uc) (.slice ya yn yc) yvs∧F' (4,0)=some (rowI (.slice ra rn rc) ((lsRow g xs (s+1) st).1++xs.drop (s+1))):=by
        rw [hsucc]; exact ⟨l1,e1⟩
       replace hfin:=Hd hfin
       replace hR':=Hd hR'
       replace hL':=Hd hL'
       replace h4:=Hd h4
       replace hsucc:=Hd hsucc
       replace hold:=Hd hold
       replace hnew:=Hd hnew
       replace hmn:=Hd hmn
       replace hm:=Hd hm
       replace r1:=Hd r1
       clear l1 e1
       go_wp2
       go_roundw
       case measure=>simp [intOf]; omega
       case rel=>exact ⟨s+1,F',_,rfl,by go_num,by omega,r1.out,hfin.out.1,hfin.out.2,b1'⟩
      | none =>
       obtain ⟨c,hl1⟩:=hL'.map.lookNo v hwf hm
       obtain ⟨hsn,hnm⟩:=hnew hm
       rw [hsn] at hsucc
       replace hmn:=hmn hnm
       have hsmL:=hka.out.small
       have lU:=fun w=>(hR'.ownI hL'.sts).at.len w
       have hUl:(intN ST).length=ST.length:=by simp [intN]
       rw [hUl] at lU
       obtain ⟨w6,hmu,hM6,hg6⟩:=hL'.map.store v (ST.length:Nat) hwf (WalkArith.wf_i64 (by omega)) hm (by omega)
       rw [hmn] at hM6
       obtain ⟨es,cl,hblk⟩:=hL'.map.blk
       have hR6:=hR'.mapB hblk hg6
       have hB6:=hB'.grown hg6 hB'.size (fun k hk=>by cases hk; exact hL'.mb0)
       have hO6:=hR6.ownI hL'.sts
       have hs6:=hB6.size
       have hmb0:=hL'.mb0
       have hfin:∀ (uv:Value) (w7:World),OwnI w2.heap.size w7 uv (intN ST++[(tn:Int)])→Below w2.heap.size w6 w7→((roomOf uv=roomOf (.slice ua un uc)∧w6.grownBy w7 (Value.slice ua un uc).ownBlock)∨(∃ k,uv.ownBlock=some k∧w6.heap.size≤k∧w6.grownBy w7 none)) →
        (w7.cell? pR=some (.int .i64 (tn:Int))∧w7.frozen? pR=false)∧∃ F',Rows w2.heap.size (w7.setCell pR (.int .i64 (ST.length:Nat))) F'∧LsAt w2.heap.size (w7.setCell pR (.int .i64 (ST.length:Nat))) F' ob mb K g (lsRow g xs (s+1) st).2 Y uv (.slice ya yn yc) yvs∧F' (4,0)=some (rowI (.slice ra rn rc) ((lsRow g xs (s+1) st).1++xs.drop (s+1)))∧Below w2.heap.size w2 (w7.setCell pR (.int .i64 (ST.length:Nat))):=by
        intro uv w7 ho7 b7 hal7
        have hg7:w6.grownBy w7 (Value.slice ua un uc).ownBlock:=by
         rcases hal7 with ⟨_,q⟩ | ⟨_,_,_,q⟩
         ·exact q
         ·exact grown_any q _
        have hR7:=hR6.grown (r':=rowI uv (intN ST++[(tn:Int)])) hL'.sts hg7 ho7 (by
         rcases hal7 with ⟨q,_⟩ | ⟨k,h1,h2,_⟩
         ·obtain ⟨a2,n2,c2,e2⟩:=ho7.at.shape
          exact .inl (ownBlock_of_room rfl e2 q)
         ·exact .inr ⟨k,h1,h2⟩)
        obtain ⟨es6,cl6,hblk6⟩:=hM6.blk
        have hM7:=hM6.kept hg7 (fun e=>hR6.not_map hL'.sts hblk6 e.symm)
        have h4':upd f' (1,0) (some (rowI uv (intN ST++[(tn:Int)]))) (4,0)=some (rowI (.slice ra rn rc) (RW++xs.drop s)):=by rw [upd_ne _ _ (by decide)]; exact h4
        have hL7:LsAt w2.heap.size w7 (upd f' (1,0) (some (rowI uv (intN ST++[(tn:Int)])))) ob mb K g (ST++[tn]) Y uv (.slice ya yn yc) yvs :=
         ⟨by rw [upd_ne _ _ (by decide)]; exact hL'.box,by rw [upd_same,intN_snoc],hL'.rows.congr fun j hj=>upd_ne _ _ (by intro e; subst e; rcases hj with q | q<;>exact absurd q (by decide)),by rw [List.length_append,List.length_singleton]; exact hM7,hmb0⟩
        refine ⟨hcell.out w7 _ hR7 h4',?_⟩
        obtain ⟨F',r1,l1,e1,b1'⟩:=hput.out w7 _ (ST++[tn]) uv (ST.length:Nat) hR7 hL7 h4' (hB6.trans b7)
        exact ⟨F',r1,by rw [hsucc]; exact l1,by rw [hsucc]; exact e1,b1'⟩
       replace hfin:=Hd hfin
       replace hR':=Hd hR'
       replace hL':=Hd hL'
       replace h4:=Hd h4
       replace hsucc:=Hd hsucc
       replace hold:=Hd hold
       replace hmn:=Hd hmn
       replace hm:=Hd hm
       replace hnm:=Hd hnm
       replace hsn:=Hd hsn
       replace hM6:=Hd hM6
       replace hR6:=Hd hR6
       replace hblk:=Hd hblk
       clear hg6 hB6
       go_wp2_with (at_builtin; refine wpl_app1 rfl _ _ rfl w2.heap.size (.slice ua un uc) (intN ST) tn hO6 rfl rfl (by rw [hUl]; omega) hs6 ?_)
       intro uv w7 ho7 b7 hal7
       clear cR zR
       obtain ⟨⟨cR,zR⟩,F',r1,l1,e1,b1'⟩:=hfin.out uv w7 ho7 b7 hal7
       obtain ⟨qa,qn,qc,rfl⟩:=ho7.at.shape
       replace r1:=Hd r1
       replace l1:=Hd l1
       replace e1:=Hd e1
       clear ho7 hal7 b7 hO6 cG
       go_wp2
       go_roundw
       case measure=>simp [intOf]; omega
       case rel=>exact ⟨s+1,F',_,rfl,by go_num,by omega,r1.out,l1.out,e1.out,b1'⟩
    ·obtain rfl:K=s:=by omega
     have dj:decide ((K:Int)<(K:Int))=false:=decide_eq_false (by omega)
     rw [List.drop_of_length_le (by rw [hrl.out]; exact Nat.le_refl _),List.append_nil] at h4
     have hgo2:=hgo.out
     rw [hRWe,hSTe] at hgo2
     have hmore:=(lsRow_kept (xs:=xs) hkp.out K (fun t ht=>hxhi.out t ht)).2.1.1
     rw [hSTe] at hmore
     have hcc:=hL'.cells hR'
     have cY:=hcc.2.1
     have hyl:yvs.length<4398046511104:=by rw [hL'.rows.len,hYl.out]; omega
     have hsB:=hB'.size
     have hkST:=hka
     replace hgo2:=Hd hgo2
     replace hka:=Hd hka
     replace hkST:=Hd hkST
     replace hRWe:=Hd hRWe
     replace hSTe:=Hd hSTe
     replace hR':=Hd hR'
     replace hL':=Hd hL'
     replace h4:=Hd h4
     replace hsucc:=Hd hsucc
     clear hcc hown
     go_wp2_with (at_builtin; go_loud (refine wpl_appR oneLists rfl _ _ rfl hR'.out (2,0) (.slice ya yn yc) yvs hL'.out.rows.out (.slice ra rn rc) rfl rfl rfl hyl (by omega) ?_))
     intro v5 w8 f8 R8 i8 o8 B8 hgr
     obtain ⟨row8,g8,hrow8⟩:=hgr
     obtain ⟨pa,pn,pc,rfl⟩:=(R8.ownV i8).shape
     have d00:=(o8 (0,0) (by decide)).trans hL'.out.box
     have d40:=(o8 (4,0) (by decide)).trans h4.out
     have c8:w8.cell? ⟨ob,1,none⟩=some (.slice ya yn yc):=R8.cellN d00 1 (by decide)
     have z8:=R8.frzN d00 1
     obtain ⟨f9,R9,n9,o9⟩:=R8.stN d00 1 (.slice pa pn pc)
     obtain ⟨es,cl,hblk⟩:=hL'.out.map.blk
     have hM8:=hL'.out.map.kept g8 (fun e=>hR'.out.not_map hL'.out.rows.out hblk (hrow8 mb e.symm))
     obtain ⟨es8,cl8,hblk8⟩:=hM8.blk
     have hM9:=hM8.kept (World.ownsRow.stored (R8.1 _ _ d00) 1 (.slice pa pn pc)).2 (fun e=>R8.not_map d00 hblk8 e.symm)
     have m40:=(o9 (4,0) (by decide)).trans d40
     have R10:=R9.move (j:=(3,Y.length)) m40 (R9.1 _ _ m40) rfl
     have hne:∀ j:Nat×Nat,j≠(3,Y.length)→j.1≠4→upd (upd f9 (4,0) none) (3,Y.length) (some (rowI (.slice ra rn rc) RW)) j=f9 j:=fun j a1 a2=>by rw [upd_ne _ _ a1,upd_ne _ _ (by intro e; exact a2 (by rw [e]))]
     have hL10:LsAt w2.heap.size (w8.setCell ⟨ob,1,none⟩ (.slice pa pn pc)) (upd (upd f9 (4,0) none) (3,Y.length) (some (rowI (.slice ra rn rc) RW))) ob mb K g ST (Y++[RW]) (.slice ua un uc) (.slice pa pn pc) (yvs++[.slice ra rn rc]):=by
      refine ⟨?_,?_,hL'.out.rows.more ?_ (upd_same _ _ _) fun q hq=>?_,hM9,hL'.out.mb0⟩
      ·rw [hne _ (by intro e; injection e with e _; exact absurd e (by decide)) (by decide),n9]; rfl
      ·rw [hne _ (by intro e; injection e with e _; exact absurd e (by decide)) (by decide),o9 _ (by decide),o8 _ (by decide)]; exact hL'.out.sts
      ·rw [hne _ (by intro e; injection e with e _; exact absurd e (by decide)) (by decide),o9 _ (by decide)]; exact i8
      ·rw [hne _ (by intro e; injection e with _ e; omega) (by show (3:Nat)≠4; decide),o9 _ (by intro e; injection e with e _; exact absurd e (by decide)),o8 _ (by intro e; injection e with e _; exact absurd e (by decide))]
     have hB10:=(hB'.trans B8).setCell (show w2.heap.size≤(⟨ob,1,none⟩:Addr).block from (R8.lowN d00).1) (.slice pa pn pc)
     replace R10:=Hd R10
     replace hL10:=Hd hL10
     replace hB10:=Hd hB10
     clear hne m40 hM9 hM8 hblk hblk8 n9 o9 R9 d40 d00 i8 o8 B8 R8 g8 hrow8
     go_wp2
     go_roundw
     case measure=>simp [intOf]; omega
     case rel=>exact ⟨i+1,ST,Y++[RW],_,_,_,_,rfl,by go_num,by omega,by rw [List.length_append,hYl.out]; rfl,hkST.out,hgo2.out,R10.out,hL10.out,hB10.out⟩
  ·have hie:i=st.length:=by omega
   have di:decide ((i:Int)<(st.length:Int))=false:=decide_eq_false (by omega)
   rw [lsGo_end his (by omega)] at hgo
   have hle:=ls_least (g:=g) ok.out
   rw [← hgo] at hle
   have hcc:=hL.cells hR
   have cO0:=hcc.1
   have cO1:=hcc.2.1
   have hrw:rb<w2.heap.size:=by omega
   have cr0:wo.cell? ⟨rb,0,none⟩=some (.int .i64 0):=(hB.cell (p:=⟨rb,0,none⟩) hrw).trans ra0'.out
   have cr1:wo.cell? ⟨rb,1,none⟩=some (.slice none 0 0):=(hB.cell (p:=⟨rb,1,none⟩) hrw).trans ra1'.out
   have zr0:wo.frozen? ⟨rb,0,none⟩=false:=(hB.frozen (p:=⟨rb,0,none⟩) hrw).trans ((b2.frozen (p:=⟨rb,0,none⟩) hlt).trans rf0)
   have zr1:wo.frozen? ⟨rb,1,none⟩=false:=(hB.frozen (p:=⟨rb,1,none⟩) hrw).trans ((b2.frozen (p:=⟨rb,1,none⟩) hlt).trans rf1)
   have hfin:FreshL w.heap.size ((wo.setCell ⟨rb,0,none⟩ (.int .i64 K)).setCell ⟨rb,1,none⟩ (.slice ya yn yc)) (.slice ya yn yc) Y:=⟨f,yvs,rows_mono ((hR.storeLow (a:=⟨rb,0,none⟩) hrw (.int .i64 K)).storeLow (a:=⟨rb,1,none⟩) hrw (.slice ya yn yc)) (by omega),hL.rows⟩
   have hBE:=(((Below.step b0 (Below.step b1 (Below.step b2 hB))).setCell (show w.heap.size≤(⟨rb,0,none⟩:Addr).block from rlow) (.int .i64 K)).setCell (show w.heap.size≤(⟨rb,1,none⟩:Addr).block from rlow) (.slice ya yn yc))
   replace hfin:=Hd hfin
   replace hle:=Hd hle
   replace hBE:=Hd hBE
   replace hR:=Hd hR
   replace hL:=Hd hL
   replace hkp:=Hd hkp
   replace hgo:=Hd hgo
   clear hcc hSo
   have y1:=World.cell?_setCell_same (wo.setCell ⟨rb,0,none⟩ (.int .i64 K)) ⟨rb,1,none⟩ (.slice ya yn yc) ((World.cell?_setCell_other _ _ _ _ (by intro e; simp only [Addr.mk.injEq] at e; omega)).trans cr1)
   have y0:((wo.setCell ⟨rb,0,none⟩ (.int .i64 K)).setCell ⟨rb,1,none⟩ (.slice ya yn yc)).cell? ⟨rb,0,none⟩=some (.int .i64 K):=(World.cell?_setCell_other _ _ _ _ (by intro e; simp only [Addr.mk.injEq] at e; omega)).trans (World.cell?_setCell_same wo ⟨rb,0,none⟩ (.int .i64 K) cr0)
   replace y0:=Hd y0
   replace y1:=Hd y1
   go_wp2
   have x0:=y0.out
   have x1:=y1.out
   refine bodyPost_ret (v:=.agg #[.int .i64 K,.slice ya yn yc]) (by simp [results,Tryz.results111,go_sem,x0,x1]) rfl ?_
   exact ⟨_,rfl,hBE.out,g,st,Y,_,rfl,hfin.out,hst.out,hle.out,hsm⟩
end Go.Proofs.YtkaoebokbfcmhaaGreatDoor
namespace Go.Proofs.YtkaoebokbfcmhaaGreatDoor
open Go.RowKit Go.Extern.Stop Go.Stop Go.Extern
set_option maxRecDepth 100000
set_option maxHeartbeats 8000000
namespace Errs
theorem noIsE (v:Value) (xT:TypeId) (w:World):(Instr.typeAssert (.iface 287 v) xT 194 true).run Tryz.prog w=.ok (.tuple #[.nilIface,.bool false]) w:=run_typeAssert_lacksB uIs (by kernel_rfl) (by kernel_rfl) v xT w
theorem noUnwE (v:Value) (xT:TypeId) (w:World):(Instr.typeAssert (.iface 287 v) xT 197 true).run Tryz.prog w=.ok (.tuple #[.nilIface,.bool false]) w:=run_typeAssert_lacksB uUnw (by kernel_rfl) (by kernel_rfl) v xT w
theorem uUnws' : Tryz.prog.underlying 198 = some (.interface #[("Unwrap", 199)]) := by kernel_rfl
theorem noUnwsE (v:Value) (xT:TypeId) (w:World):(Instr.typeAssert (.iface 287 v) xT 198 true).run Tryz.prog w=.ok (.tuple #[.nilIface,.bool false]) w:=run_typeAssert_lacksB uUnws' (by kernel_rfl) (by kernel_rfl) v xT w
theorem roots_ne {r:Nat→Addr} {w:World} (hg:Glob r w) {m n:Int} (hm:1≤m∧m≤11) (hn:1≤n∧n≤11) (hne:m≠n):(binOp .eql 27 (rootV r m) (rootV r n)).run Tryz.prog w=.ok (.bool false) w:=by
 obtain ⟨i,hi,hcmp⟩:=Option.map_eq_some_iff.1 compE
 obtain ⟨j,hj,hjs⟩:=Option.map_eq_some_iff.1 sizeE
 obtain ⟨c1,t1,f1⟩:=hg.flat m.toNat (.inl (by omega))
 obtain ⟨c2,t2,f2⟩:=hg.flat n.toNat (.inl (by omega))
 exact run_eql_iface_ptr_other (P:=Tryz.prog) w uErr uES hi hcmp hj (by rw [hjs]; decide) (fun e=>hne (hg.apart m n hm.1 hm.2 hn.1 hn.2 e)) f1 f2
theorem is_loop_no (r:Nat→Addr) (n m:Int) (l:List (ByteArray×Int)) (v:Value) (w:World) (hg:Glob r w) (h:ErrAt r w n l v) (hm:1≤m∧m≤11) (hn:1≤n∧n≤11) (hne:n≠m) :
 Calls Tryz.prog 72 #[v,rootV r m,.bool true] w fun e w'=>e=.returned (.bool false)∧w=w':=by
 have heq:=roots_ne hg hn hm hne
 have nF:=noIsF
 have uF:=hasUnwrapF
 have mU:=methodUnwrap
 have nE:=noIsE
 have uE:=noUnwE
 have usE:=noUnwsE
 replace h:=Hd h
 replace hg:=Hd hg
 clear hm hn hne
 go_enter Tryz.func72,Tryz.ntmps72
 go_wp2
 go_loopg [0] l.length (fun k u wr=>wr=w∧∃ l',l'.length=k∧ErrAt r w n l' u)
 case atStart=>exact ⟨rfl,l,rfl,h.out⟩
 case round =>
  obtain ⟨rfl,l',hl',hu⟩:=hrel
  match l',hl',hu with
  | [],hl',hu =>
   obtain rfl:_=rootV r n:=hu
   clear hl'
   go_wp2
   go_ret
   exact ⟨rfl,rfl⟩
  | (op,at_)::rest,hl',hu =>
   obtain ⟨p,u',rfl,c0,c1,c2,hrest⟩:=hu
   obtain ⟨T,a,rfl⟩:=hrest.shape
   have hty:=run_eql_iface_types (P:=Tryz.prog) 75 287 (.pointer (some ⟨p,0,none⟩)) (.pointer (some (r m.toNat))) uErr (by decide) wr
   replace hrest:=Hd hrest
   replace hl':=Hd hl'
   go_wp2_with (go_at_call 225; refine (unwrap_any p _ _ c2).mono ?_; rintro e w' ⟨rfl,rfl⟩)
   go_roundg rest.length
   case measure=>have:=hl'.out; simp at this; omega
   case rel=>exact ⟨rfl,rest,rfl,hrest.out⟩
theorem is_no (r:Nat→Addr) (n m:Int) (l:List (ByteArray×Int)) (v:Value) (w:World) (hg:Glob r w) (h:ErrAt r w n l v) (hm:1≤m∧m≤11) (hn:1≤n∧n≤11) (hne:n≠m) :
 Calls Tryz.prog 27 #[v,rootV r m] w fun e w'=>e=.returned (.bool false)∧w=w':=by
 have h8:=@run_callFunc_extern Tryz.prog 71 _ Extern.ReflectliteType.typeOf Tryz.func71 (by kernel_rfl) (by kernel_rfl) (by kernel_rfl) (by kernel_rfl)
 have h32 := @run_callFunc_extern Tryz.prog 232 _ (Extern.ReflectliteType.method fun t => do Extern.Rtype.noPackHeld "Comparable" t; pure (.bool (← typeInfo t).comparable)) Tryz.func232 (by kernel_rfl) (by kernel_rfl) (by kernel_rfl) (by kernel_rfl)
 have tT:=typeOfE
 have cT:=comparableE
 have mR:=methodComparable
 obtain ⟨T,a,rfl⟩:=h.shape
 replace h:=Hd h
 replace hg:=Hd hg
 go_enter Tryz.func27,Tryz.ntmps27
 go_wp2_with fail
 refine (is_loop_no r n m l _ _ hg.out h.out hm hn hne).mono ?_
 rintro e w' ⟨rfl,rfl⟩
 go_wp2
 go_ret
 exact ⟨rfl,rfl⟩
end Errs
end Go.Proofs.YtkaoebokbfcmhaaGreatDoor
namespace Go.Proofs.YtkaoebokbfcmhaaGreatDoor
open Go.RowKit
set_option maxRecDepth 100000
theorem small_fresh {k R:Int} {T:List Int} {t:Int×List (ByteArray×Int)} (h:smallP k R T=some t):∃ a n:Int,t=(n,[(sRule,a)])∧1≤n∧n≤11:=by
 have hf:∀ {a n:Int} {t:Int×List (ByteArray×Int)},fresh sRule a n=some t→1≤n→n≤11→∃ a n:Int,t=(n,[(sRule,a)])∧1≤n∧n≤11:=fun {a n t} h h1 h2=>by
  unfold fresh at h
  injection h with h
  exact ⟨a,n,h.symm,h1,h2⟩
 unfold smallP at h
 cases hc:checkP k R T with
 | none =>
  rw [hc] at h
  simp only at h
  by_cases hl:256<T.length
  ·rw [if_pos hl] at h; exact hf h (by decide) (by decide)
  ·rw [if_neg hl] at h; cases h
 | some s =>
  rw [hc] at h
  simp only at h
  injection h with h
  subst h
  unfold checkP at hc
  split at hc
  ·exact hf hc (by decide) (by decide)
  ·split at hc
   ·exact hf hc (by decide) (by decide)
   ·split at hc
    ·exact hf hc (by decide) (by decide)
    ·split at hc
     ·cases hc
     ·exact hf hc (by decide) (by decide)
theorem nodes_bad (r:Nat→Addr) (k R:Int) (va:Option Addr) (vn vc:Nat) (T:List Int) (t:Int×List (ByteArray×Int)) (w:World) (hg:Glob r w) (h:IntsAt w (.slice va vn vc) T) (hc:smallP k R T=some t) :
 Calls Tryz.prog 76 #[.agg #[.int .i64 k,.int .i64 R,.slice va vn vc]] w (Ret2 (fun x y w'=>x=.int .i64 0∧ErrIs r w' (under sOverlap 0 (some t)) y) w):=by
 have b0:=belowAlloc w (.cells #[.int .i64 k,.int .i64 R,.slice va vn vc] 24)
 have q:Box3 (w.alloc (.cells #[.int .i64 k,.int .i64 R,.slice va vn vc] 24)) w.heap.size (.int .i64 k) (.int .i64 R) (.slice va vn vc):=by simp [Box3,go_sem]
 have hs:=over_small r k R va vn vc T _ (hg.below b0) (h.below b0)
 rw [hc] at hs
 replace hs:=Hd hs
 obtain ⟨⟨z0,z1,z2⟩,-,-,-⟩:=q
 go_enter Tryz.func76,Tryz.ntmps76
 go_wp2_with fail
 refine hs.out.mono ?_
 rintro e w1 ⟨x,rfl,b1,he⟩
 obtain ⟨T1,p1,rfl⟩:∃ T a,x=.iface T (.pointer (some a)):=by
  unfold under at he
  exact he.some_shape
 have bE:=Below.step b0 b1
 replace he:=Hd he
 clear z0 z1 z2 hs
 go_wp2
 go_ret2
 exact ⟨_,_,rfl,bE,rfl,he.out⟩
theorem unw_any (r:Nat→Addr) (n:Int) (op:ByteArray) (at_:Int) (l:List (ByteArray×Int)) (v:Value) (w:World) (h:ErrAt r w n ((op,at_)::l) v) :
 Calls Tryz.prog 143 #[v] w (Ret1 (fun x w'=>ErrAt r w' n l x) w):=by
 obtain ⟨p,u,rfl,c0,c1,c2,hu⟩:=h
 obtain ⟨T,a,rfl⟩:=hu.shape
 replace hu:=Hd hu
 have uF:=Errs.hasUnwrapF
 have mU:=Errs.methodUnwrap
 clear c0 c1
 go_enter Tryz.func143,Tryz.ntmps143
 go_wp2_with (go_at_call 225; refine (Errs.unwrap_any p _ _ c2).mono ?_; rintro e w' ⟨rfl,rfl⟩)
 go_ret
 exact ⟨_,rfl,Below.refl _ _,hu.out⟩
set_option maxHeartbeats 8000000
def Box2 (w:World) (b:Nat) (x0 x1:Value):Prop:=(w.cell? ⟨b,0,none⟩=some x0∧w.cell? ⟨b,1,none⟩=some x1)∧w.frozen? ⟨b,0,none⟩=false∧w.frozen? ⟨b,1,none⟩=false
theorem Box2.below {w w':World} {b:Nat} {x0 x1:Value} (h:Box2 w b x0 x1) (hb:Below w.heap.size w w'):Box2 w' b x0 x1:=by
 obtain ⟨⟨h0,h1⟩,f0,f1⟩:=h
 have l0:=World.block_lt_of_cell? _ _ h0
 exact ⟨⟨cell_keep hb h0,cell_keep hb h1⟩,(hb.frozen (p:=⟨b,0,none⟩) l0).trans f0,(hb.frozen (p:=⟨b,1,none⟩) l0).trans f1⟩
theorem all_bad (r:Nat→Addr) (g:Nat) (k R:Int) (va:Option Addr) (vn vc:Nat) (T:List Int) (t:Int×List (ByteArray×Int)) (w:World) (hg:Glob r w) (h:IntsAt w (.slice va vn vc) T) (hc:smallP k R T=some t)
 (x0:w.cell? ⟨g,0,none⟩=some (.int .i64 k)) (x1:w.cell? ⟨g,1,none⟩=some (.int .i64 R)) (x2:w.cell? ⟨g,2,none⟩=some (.slice va vn vc)) :
 Calls Tryz.prog 115 #[.pointer (some ⟨g,0,none⟩)] w (Ret1 (fun x w'=>ErrIs r w' (under sSubset 0 (some t)) x) w):=by
 obtain ⟨a,n,rfl,n1,n2⟩:=small_fresh hc
 have hn:=nodes_bad r k R va vn vc T _ w hg h hc
 replace hn:=Hd hn
 clear hc h hg
 go_enter Tryz.func115,Tryz.ntmps115
 go_wp2_with fail
 refine hn.out.mono ?_
 rintro e w1 ⟨_,y,rfl,b1,rfl,hy⟩
 have hu:=unw_any r n sOverlap 0 [(sRule,a)] y w1 hy
 obtain ⟨T1,p1,rfl⟩:∃ T a,y=.iface T (.pointer (some a)):=by
  unfold under at hy
  exact hy.some_shape
 replace hu:=Hd hu
 clear hn hy x0 x1 x2
 go_wp2_with fail
 refine hu.out.mono ?_
 rintro e w2 ⟨z,rfl,b2,hz⟩
 have hun:=under_any r sSubset 0 (some (n,[(sRule,a)])) z w2 hz
 obtain ⟨T2,p2,rfl⟩:=hz.shape
 replace hun:=Hd hun
 clear hz hu
 go_wp2_with fail
 refine hun.out.mono ?_
 rintro e w3 ⟨x,rfl,b3,hx⟩
 have bE:=Hd (Below.step b1 (Below.step b2 b3))
 replace hx:=Hd hx
 clear b1 b2 b3 hun
 go_wp2
 go_ret
 exact ⟨_,rfl,bE.out,hx.out⟩
theorem told_back (r:Nat→Addr) (n:Int) (at_:Int) (l:List (ByteArray×Int)) (v:Value) (w:World) (hg:Glob r w) (hG:GlobE w) (h:ErrAt r w n ((sSubset,at_)::l) v) (h1:1≤n) (h2:n≤11) :
 Calls Tryz.prog 116 #[v] w (Ret1 (fun x _=>x=v) w):=by
 have z4:=hg.c4
 have h':=h
 obtain ⟨p,u,rfl,c0,c1,c2,hu⟩:=h
 by_cases h4:n=4
 ·subst h4
  have his:=Errs.is_any r 4 _ _ w h'
  have bv:=belowAlloc' w (.cells #[.pointer none] 75)
  have zt:(w.alloc (.cells #[.pointer none] 75)).cell? ⟨w.heap.size,0,none⟩=some (.pointer none):=by simp
  have ft:(w.alloc (.cells #[.pointer none] 75)).frozen? ⟨w.heap.size,0,none⟩=false:=by simp
  have gv:=Hd (hG.below bv)
  replace hg:=Hd hg
  replace hG:=Hd hG
  replace hu:=Hd hu
  replace h':=Hd h'
  go_enter Tryz.func116,Tryz.ntmps116
  go_wp2_with fail
  refine his.mono ?_
  rintro e w1 ⟨rfl,rfl⟩
  clear his
  go_upto_region 3 with fail
  obtain ⟨wv,hwv⟩:∃ W:World,W=w.alloc (.cells #[.pointer none] 75):=⟨_,rfl⟩
  rw [← hwv] at bv zt ft gv ⊢
  clear hwv
  replace c0:=Hd c0
  replace c1:=Hd c1
  replace c2:=Hd c2
  have has:Calls Tryz.prog 31 #[.iface 75 (.pointer (some ⟨p,0,none⟩)),.iface 77 (.pointer (some ⟨w.heap.size,0,none⟩))] wv fun e w'=>e=.returned (.bool true)∧w'.cell? ⟨w.heap.size,0,none⟩=some (.pointer (some ⟨p,0,none⟩))∧Below w.heap.size w w':=by
   refine (Errs.as_any ⟨p,0,none⟩ ⟨w.heap.size,0,none⟩ (.pointer none) wv gv.out zt ft).mono ?_
   rintro e w6 ⟨rfl,w5,hb5,rfl⟩
   exact ⟨rfl,World.cell?_setCell_same _ _ _ (cell_keep hb5 zt),(Below.stepL bv hb5).setCell (p:=⟨w.heap.size,0,none⟩) (Nat.le_refl _) _⟩
  go_wp2_with fail
  refine has.mono ?_
  rintro e w6 ⟨rfl,p0,b6⟩
  have y0:w6.cell? ⟨p,0,none⟩=some (.string ⟨#[115,117,98,115,101,116]⟩):=cell_keep b6 c0.out
  clear has zt ft
  go_wp2
  go_ret
  exact ⟨_,rfl,b6,rfl⟩
 ·have his:=Errs.is_no r n 4 _ _ w hg h' ⟨by omega,by omega⟩ ⟨h1,h2⟩ h4
  replace hg:=Hd hg
  replace hG:=Hd hG
  replace hu:=Hd hu
  replace h':=Hd h'
  go_enter Tryz.func116,Tryz.ntmps116
  go_wp2_with fail
  refine his.mono ?_
  rintro e w1 ⟨rfl,rfl⟩
  clear his
  go_wp2
  go_ret
  exact ⟨_,rfl,Below.refl _ _,rfl⟩
theorem walk_bad (r:Nat→Addr) (k R:Int) (va:Option Addr) (vn vc:Nat) (T:List Int) (t:Int×List (ByteArray×Int)) (w:World) (hg:Glob r w) (hG:GlobE w) (h:IntsAt w (.slice va vn vc) T) (hc:smallP k R T=some t) :
 Calls Tryz.prog 77 #[.agg #[.int .i64 k,.int .i64 R,.slice va vn vc]] w (Ret2 (fun x y w'=>x=.agg #[.int .i64 0,.slice none 0 0]∧ErrIs r w' (under sSubset 0 (some t)) y) w):=by
 obtain ⟨a,n,rfl,n1,n2⟩:=small_fresh hc
 have b0:=Below.step (belowAlloc w (.cells #[.int .i64 k,.int .i64 R,.slice va vn vc] 24)) (belowAlloc _ (.cells #[.int .i64 0,.slice none 0 0] 54))
 have b1:=Below.step b0 (belowAlloc _ (.cells #[.int .i64 k,.int .i64 R,.slice va vn vc,.pointer none,.slice none 0 0,.slice none 0 0,.bool false] 178))
 obtain ⟨w1,hw1⟩:∃ W:World,((w.alloc (.cells #[.int .i64 k,.int .i64 R,.slice va vn vc] 24)).alloc (.cells #[.int .i64 0,.slice none 0 0] 54)).alloc (.cells #[.int .i64 k,.int .i64 R,.slice va vn vc,.pointer none,.slice none 0 0,.slice none 0 0,.bool false] 178)=W:=⟨_,rfl⟩
 have x0:w1.cell? ⟨w.heap.size+1+1,0,none⟩=some (.int .i64 k):=by rw [← hw1]; simp [go_sem]
 have x1:w1.cell? ⟨w.heap.size+1+1,1,none⟩=some (.int .i64 R):=by rw [← hw1]; simp [go_sem]
 have x2:w1.cell? ⟨w.heap.size+1+1,2,none⟩=some (.slice va vn vc):=by rw [← hw1]; simp [go_sem]
 have qa:Box2 w1 (w.heap.size+1) (.int .i64 0) (.slice none 0 0):=by rw [← hw1]; simp [Box2,go_sem]
 rw [hw1] at b1
 have hall:=all_bad r (w.heap.size+1+1) k R va vn vc T _ w1 (hg.below b1) (h.below b1) hc x0 x1 x2
 replace hall:=Hd hall
 replace hw1:=Hd hw1
 replace hg:=Hd hg
 replace hG:=Hd hG
 clear h hc b0 x0 x1 x2
 go_enter Tryz.func77,Tryz.ntmps77
 go_upto_region 2 with fail
 rw [hw1.out]
 go_wp2_with fail
 refine hall.out.mono ?_
 rintro e w2 ⟨x,rfl,b2,hx⟩
 have b12:=Below.step b1 b2
 have htb:=told_back r n 0 [(sRule,a)] x w2 (hg.out.below b12) (hG.out.below b12) hx n1 n2
 obtain ⟨T1,p1,rfl⟩:∃ T a,x=.iface T (.pointer (some a)):=by
  unfold under at hx
  exact hx.some_shape
 replace qa:=Hd (qa.below b2)
 replace hx:=Hd hx
 replace htb:=Hd htb
 replace b12:=Hd b12
 clear hall b1 b2
 go_wp2_with fail
 refine htb.out.mono ?_
 rintro e w3 ⟨_,rfl,b3,rfl⟩
 obtain ⟨⟨u0,u1⟩,g0,g1⟩:=qa.out.below b3
 have hx3:=Hd (hx.out.below b3)
 have bE:=Hd (Below.step b12.out b3)
 clear hx b3 htb
 go_wp2
 rw [setCell_self u0,setCell_self u1]
 exact bodyPost_ret (v:=.tuple #[.agg #[.int .i64 0,.slice none 0 0],.iface T1 (.pointer (some p1))]) (by simp [results,Tryz.results77,go_sem,u0,u1]) rfl ⟨_,_,rfl,bE.out,rfl,hx3.out⟩
def sImage:ByteArray:=⟨#[105,109,97,103,101]⟩
theorem imgof_bad (r:Nat→Addr) (m k R:Int) (va:Option Addr) (vn vc:Nat) (T:List Int) (t:Int×List (ByteArray×Int)) (w:World) (hg:Glob r w) (hG:GlobE w) (h:IntsAt w (.slice va vn vc) T) (hc:smallP k R T=some t) :
 Calls Tryz.prog 58 #[.int .i64 m,.agg #[.int .i64 k,.int .i64 R,.slice va vn vc]] w (Ret2 (fun x y w'=>x=.agg #[.int .i64 0,.slice none 0 0]∧ErrIs r w' (under sImage m (under sSubset 0 (some t))) y) w):=by
 have b0:=Below.step (belowAlloc w (.cells #[.int .i64 k,.int .i64 R,.slice va vn vc] 24)) (belowAlloc _ (.cells #[.int .i64 0,.slice none 0 0] 54))
 have q:Box3 ((w.alloc (.cells #[.int .i64 k,.int .i64 R,.slice va vn vc] 24)).alloc (.cells #[.int .i64 0,.slice none 0 0] 54)) w.heap.size (.int .i64 k) (.int .i64 R) (.slice va vn vc):=by simp [Box3,go_sem]
 obtain ⟨w1,hw1⟩:∃ W:World,(w.alloc (.cells #[.int .i64 k,.int .i64 R,.slice va vn vc] 24)).alloc (.cells #[.int .i64 0,.slice none 0 0] 54)=W:=⟨_,rfl⟩
 rw [hw1] at b0 q
 have qa:Box2 w1 (w.heap.size+1) (.int .i64 0) (.slice none 0 0):=by rw [← hw1]; simp [Box2,go_sem]
 have hwk:=walk_bad r k R va vn vc T t w1 (hg.below b0) (hG.below b0) (h.below b0) hc
 replace hwk:=Hd hwk
 replace hw1:=Hd hw1
 clear hg hG h hc
 obtain ⟨⟨z0,z1,z2⟩,-,-,-⟩:=q
 go_enter Tryz.func58,Tryz.ntmps58
 go_upto_region 1 with fail
 rw [hw1.out]
 go_wp2_with fail
 refine hwk.out.mono ?_
 rintro e w2 ⟨_,y,rfl,b2,rfl,hy⟩
 have bl:=belowAlloc w2 (.cells #[.int .i64 0,.slice none 0 0] 54)
 have b3:=Below.step b2 bl
 have hun:=under_any r sImage m _ y _ (hy.below bl)
 obtain ⟨T1,p1,rfl⟩:∃ T a,y=.iface T (.pointer (some a)):=by
  unfold under at hy
  exact hy.some_shape
 replace qa:=Hd (qa.below b3)
 have b03:=Hd (Below.step b0 b3)
 replace hun:=Hd hun
 clear z0 z1 z2 hwk b2 bl b3 b0 hy
 go_wp2_with fail
 refine hun.out.mono ?_
 rintro e w4 ⟨x,rfl,b4,hx⟩
 obtain ⟨⟨u0,u1⟩,g0,g1⟩:=qa.out.below b4
 obtain ⟨T2,p2,rfl⟩:∃ T a,x=.iface T (.pointer (some a)):=by
  unfold under at hx
  exact hx.some_shape
 have bE:=Hd (Below.step b03.out b4)
 replace hx:=Hd hx
 clear hun b4
 go_wp2
 rw [setCell_self u0,setCell_self u1]
 exact bodyPost_ret (v:=.tuple #[.agg #[.int .i64 0,.slice none 0 0],.iface T2 (.pointer (some p2))]) (by simp [results,Tryz.results58,go_sem,u0,u1]) rfl ⟨_,_,rfl,bE.out,rfl,hx.out⟩
theorem least_bad (r:Nat→Addr) (k R:Int) (va:Option Addr) (vn vc:Nat) (T:List Int) (t:Int×List (ByteArray×Int)) (w:World) (hg:Glob r w) (hG:GlobE w) (h:IntsAt w (.slice va vn vc) T) (hc:smallP k R T=some t) :
 Calls Tryz.prog 21 #[.agg #[.int .i64 k,.int .i64 R,.slice va vn vc]] w (Ret2 (fun x y w'=>x=.agg #[.int .i64 0,.slice none 0 0]∧ErrIs r w' (under sImage 0 (under sSubset 0 (some t))) y) w):=by
 have b0:=Below.step (belowAlloc w (.cells #[.int .i64 k,.int .i64 R,.slice va vn vc] 24)) (belowAlloc _ (.cells #[.int .i64 0,.slice none 0 0] 54))
 have q:Box3 ((w.alloc (.cells #[.int .i64 k,.int .i64 R,.slice va vn vc] 24)).alloc (.cells #[.int .i64 0,.slice none 0 0] 54)) w.heap.size (.int .i64 k) (.int .i64 R) (.slice va vn vc):=by simp [Box3,go_sem]
 obtain ⟨w1,hw1⟩:∃ W:World,(w.alloc (.cells #[.int .i64 k,.int .i64 R,.slice va vn vc] 24)).alloc (.cells #[.int .i64 0,.slice none 0 0] 54)=W:=⟨_,rfl⟩
 rw [hw1] at b0 q
 have qa:Box2 w1 (w.heap.size+1) (.int .i64 0) (.slice none 0 0):=by rw [← hw1]; simp [Box2,go_sem]
 have hof:=imgof_bad r 0 k R va vn vc T t w1 (hg.below b0) (hG.below b0) (h.below b0) hc
 replace hof:=Hd hof
 replace hw1:=Hd hw1
 clear hg hG h hc
 obtain ⟨⟨z0,z1,z2⟩,-,-,-⟩:=q
 go_enter Tryz.func21,Tryz.ntmps21
 go_upto_region 1 with fail
 rw [hw1.out]
 go_wp2_with fail
 refine hof.out.mono ?_
 rintro e w2 ⟨_,x,rfl,b2,rfl,hx⟩
 obtain ⟨⟨u0,u1⟩,g0,g1⟩:=qa.below b2
 obtain ⟨T2,p2,rfl⟩:∃ T a,x=.iface T (.pointer (some a)):=by
  unfold under at hx
  exact hx.some_shape
 have bE:=Hd (Below.step b0 b2)
 replace hx:=Hd hx
 clear z0 z1 z2 hof b0 b2
 go_wp2
 rw [setCell_self u0,setCell_self u1]
 exact bodyPost_ret (v:=.tuple #[.agg #[.int .i64 0,.slice none 0 0],.iface T2 (.pointer (some p2))]) (by simp [results,Tryz.results21,go_sem,u0,u1]) rfl ⟨_,_,rfl,bE.out,rfl,hx.out⟩
def SomeErr (y:Value):Prop:=∃ T p,y=.iface T (.pointer (some p))
def WalkPost (r:Nat→Addr) (K:Nat):WkR (List (List Int))→Value→Value→World→Prop
 | .on _ _ x,v,y,w'=>y=.nilIface∧∃ xv,v=.agg #[.int .i64 K,xv]∧ListsAt w' xv x
 | _,v,y,w'=>v=.agg #[.int .i64 0,.slice none 0 0]∧ErrIs r w' (fresh sSubset 0 4) y
theorem sub_walk (r:Nat→Addr) (K R:Nat) (va:Option Addr) (vn vc:Nat) (T:List Int) (w:World) (hg:Glob r w) (hG:GlobE w) (h:IntsAt w (.slice va vn vc) T) (hok:RuleOk K R T) (hl:T.length≤256) :
 Calls Tryz.prog 77 #[.agg #[.int .i64 K,.int .i64 R,.slice va vn vc]] w (Ret2 (fun x y w'=>WalkPost r K (wkAll false K (pw K (2*R)) T) x y w') w):=by
 have hk1:=hok.k1
 have hT:T.length=pw K (2*R)*K:=by rw [hok.len,pw_succ]
 have hn:T.length/K=pw K (2*R):=by rw [hT]; exact Nat.mul_div_cancel _ (by omega)
 have h1:=pw_pos (K:=K) (2*R) hk1
 have hn4:pw K (2*R)≤256:=by rw [← hn]; exact Nat.le_trans (Nat.div_le_self _ _) hl
 obtain ⟨n,hne⟩:∃ n,pw K (2*R)=n:=⟨_,rfl⟩
 rw [hne] at hn h1 hn4 ⊢
 have b0:=Below.step (belowAlloc w (.cells #[.int .i64 K,.int .i64 R,.slice va vn vc] 24)) (belowAlloc _ (.cells #[.int .i64 0,.slice none 0 0] 54))
 have q:Box3 ((w.alloc (.cells #[.int .i64 K,.int .i64 R,.slice va vn vc] 24)).alloc (.cells #[.int .i64 0,.slice none 0 0] 54)) w.heap.size (.int .i64 K) (.int .i64 R) (.slice va vn vc):=by simp [Box3,go_sem]
 have qa:Box2 ((w.alloc (.cells #[.int .i64 K,.int .i64 R,.slice va vn vc] 24)).alloc (.cells #[.int .i64 0,.slice none 0 0] 54)) (w.heap.size+1) (.int .i64 0) (.slice none 0 0):=by simp [Box2,go_sem]
 have hsz:((w.alloc (.cells #[.int .i64 K,.int .i64 R,.slice va vn vc] 24)).alloc (.cells #[.int .i64 0,.slice none 0 0] 54)).heap.size=w.heap.size+1+1:=by simp
 obtain ⟨w0,hw0⟩:∃ W:World,(w.alloc (.cells #[.int .i64 K,.int .i64 R,.slice va vn vc] 24)).alloc (.cells #[.int .i64 0,.slice none 0 0] 54)=W:=⟨_,rfl⟩
 rw [hw0] at b0 q qa hsz
 have b1:=belowAlloc w0 (.cells #[.int .i64 K,.int .i64 R,.slice va vn vc,.pointer none,.slice none 0 0,.slice none 0 0,.bool false] 178)
 have hR:=(Rows.void w0.heap.size w0).add (i:=(30,0)) (r':=box7 178 w0.heap.size [.int .i64 K,.int .i64 R,.slice va vn vc,.pointer none,.slice none 0 0,.slice none 0 0,.bool false]) b1
  (by
    have:=World.ownsRow_lit (base:=w0.heap.size) (e:=178) (size:=7) w0 #[.int .i64 K,.int .i64 R,.slice va vn vc,.pointer none,.slice none 0 0,.slice none 0 0,.bool false] 1 (Nat.le_refl _) (by decide) rfl
    unfold Row.own
    simpa using this) (fun k hk=>by cases hk; exact Nat.le_refl _)
 obtain ⟨w1,hw1⟩:∃ W:World,w0.alloc (.cells #[.int .i64 K,.int .i64 R,.slice va vn vc,.pointer none,.slice none 0 0,.slice none 0 0,.bool false] 178)=W:=⟨_,rfl⟩
 rw [hw1] at hR b1
 have hall:=all_any (stop:=false) r (hg.below b0) (h.below b0) b1 hR (upd_same _ _ _) hok hl hn h1 hn4
 have hno:∀ wd,wkAll false K n T≠.orphan wd:=fun wd=>wkGo_no _ _ _ _ _
 obtain ⟨RES,hRES⟩:∃ X,wkAll false K n T=X:=⟨_,rfl⟩
 rw [hRES] at hall hno ⊢
 obtain ⟨gb,hgb⟩:∃ g,w0.heap.size=g:=⟨_,rfl⟩
 obtain ⟨rb,hrb⟩:∃ g,w.heap.size+1=g:=⟨_,rfl⟩
 rw [hrb] at hsz qa
 have hrg:rb<w0.heap.size:=by omega
 have hgr:rb+1=gb:=by omega
 have hrg2:rb<gb:=by omega
 rw [hgb] at hall
 have hg0:=Hd (hg.below b0)
 have hG0:=Hd (hG.below b0)
 obtain ⟨⟨z0,z1,z2⟩,-,-,-⟩:=q.below b1
 replace q:=Hd q
 replace qa:=Hd qa
 replace hRES:=Hd hRES
 replace hw1:=Hd hw1
 replace hw0:=Hd hw0
 replace hall:=Hd hall
 replace hno:=Hd hno
 have hrb2:=Hd hrb
 have hgr2:=Hd hgr
 have hgb2:=Hd hgb
 have hsz2:=Hd hsz
 clear hR hok hl hn h1 hn4 hne hT h hk1 hg hG hrb hgr hgb hsz
 go_enter Tryz.func77,Tryz.ntmps77
 go_upto_region 2 with fail
 rw [hw0.out,hw1.out,hrb2.out,hgr2.out]
 go_wp2_with fail
 refine hall.out.mono ?_
 clear hall z0 z1 z2
 cases RES with
 | on a ws x =>
  rintro e w2 ⟨rfl,b2,f',gg,b,sv,svs,wv,wvs,nv,nvs,hR2,hW2⟩
  rw [← hgb2.out] at b2
  have b02:=b1.trans b2
  have c4:=hW2.cell hR2 4 (by decide)
  replace c4:w2.cell? ⟨gb,4,none⟩=some nv:=c4
  obtain ⟨⟨z0,z1,z2⟩,-,-,-⟩:=q.out.below b02
  obtain ⟨⟨y0,y1⟩,g0,g1⟩:=qa.out.below b02
  obtain ⟨na,nn,nc,rfl⟩:=(hR2.ownV hW2.next.out).shape
  have hfin:=lists_in hW2.next ((hR2.storeLow (a:=⟨rb,0,none⟩) hrg2 (.int .i64 K)).storeLow (a:=⟨rb,1,none⟩) hrg2 (.slice na nn nc))
  have hB2:=Below.step b0 b02
  have hlow:w.heap.size≤rb:=by rw [← hrb2.out]; omega
  have hBE:=(hB2.setCell (show w.heap.size≤(⟨rb,0,none⟩:Addr).block from hlow) (.int .i64 K)).setCell (show w.heap.size≤(⟨rb,1,none⟩:Addr).block from hlow) (.slice na nn nc)
  have e1:=World.cell?_setCell_same (w2.setCell ⟨rb,0,none⟩ (.int .i64 K)) ⟨rb,1,none⟩ (.slice na nn nc) ((World.cell?_setCell_other _ _ _ _ (by intro e; simp only [Addr.mk.injEq] at e; omega)).trans y1)
  have e0:=World.cell?_setCell_same w2 ⟨rb,0,none⟩ (.int .i64 K) y0
  have hS:(w2.drew).cell? ⟨w.heap.size,0,none⟩=some (.int .i64 K)∧(w2.drew).cell? ⟨gb,4,none⟩=some (.slice na nn nc):=⟨z0,c4⟩
  replace hfin:=Hd hfin
  replace hBE:=Hd hBE
  replace e0:=Hd e0
  replace e1:=Hd e1
  replace hR2:=Hd hR2
  replace hW2:=Hd hW2
  clear z1 z2 z0 c4 b02 hB2
  go_upto_region 5 with fail
  refine wp_region_plan (fun w'=>w'.cell? ⟨w.heap.size,0,none⟩=some (.int .i64 K)∧w'.cell? ⟨gb,4,none⟩=some (.slice na nn nc)) 7 [(0,true),(1,true),(2,true),(3,true),(4,true),(5,true),(6,true)] (by kernel_rfl) (by kernel_rfl) ?_
  refine pqY 16 hS ?_
  refine pqY 17 hS ?_
  refine pqY 18 hS ?_
  refine pqY 19 hS ?_
  refine pqY 20 hS ?_
  refine pqY 21 hS ?_
  refine pqY 22 hS ?_
  refine head0 ?_
  simp only [List.drop_succ_cons,List.drop_zero]
  clear hS
  have f0:(w2.drew).frozen? ⟨rb,0,none⟩=false:=g0
  have f1:(w2.drew).frozen? ⟨rb,1,none⟩=false:=g1
  have v0:(w2.drew).cell? ⟨rb,0,none⟩=some (.int .i64 0):=y0
  have v1:(w2.drew).cell? ⟨rb,1,none⟩=some (.slice none 0 0):=y1
  go_wp2
  refine NoPanic.normal ?_
  go_wp2
  have x0:=e0.out
  have x1:=e1.out
  exact bodyPost_ret (v:=.tuple #[.agg #[.int .i64 K,.slice na nn nc],.nilIface]) (by simp [results,Tryz.results77,go_sem,x0,x1]) rfl ⟨_,_,rfl,hBE.out.drew,rfl,_,rfl,hfin.out⟩
 | orphan wd=>exact absurd rfl (hno.out wd)
 | big =>
  rintro e w2 ⟨p,rfl,b2,he⟩
  rw [← hgb2.out] at b2
  have b02:=b1.trans b2
  have b12:=Below.step b0 b02
  have told:=told_bag r (.iface 75 (.pointer (some p))) w2 (hg0.out.below b02) (hG0.out.below b02) he
  replace told:=Hd told
  replace he:=Hd he
  go_wp2_with fail
  refine told.out.mono ?_
  rintro e w5 ⟨x,rfl,b5,he5⟩
  have bfin:=Below.step b12 b5
  obtain ⟨⟨y0,y1⟩,g0,g1⟩:=qa.out.below (Below.step b02 b5)
  obtain ⟨T5,p5,rfl⟩:=he5.some_shape
  replace he5:=Hd he5
  replace bfin:=Hd bfin
  clear b02 b12 b5 told
  go_wp2
  rw [setCell_self y0,setCell_self y1]
  exact bodyPost_ret (v:=.tuple #[.agg #[.int .i64 0,.slice none 0 0],.iface T5 (.pointer (some p5))]) (by simp [results,Tryz.results77,go_sem,y0,y1]) rfl ⟨_,_,rfl,bfin.out,rfl,he5.out⟩
def IsBig (K R:Nat) (T:List Int):Prop:=wkAll false K (pw K (2*R)) T=.big
def OfPost (B K R:Nat) (T:List Int) (v y:Value) (w':World):Prop :=
 (IsBig K R T→SomeErr y∧v=.agg #[.int .i64 0,.slice none 0 0])∧(¬ IsBig K R T→y=.nilIface∧∃ M Y yv,v=.agg #[.int .i64 K,yv]∧FreshL B w' yv Y∧LangOk K R T M Y)
theorem img_of (r:Nat→Addr) (m:Int) (K R:Nat) (va:Option Addr) (vn vc:Nat) (T:List Int) (w:World) (hg:Glob r w) (hG:GlobE w) (h:IntsAt w (.slice va vn vc) T) (hok:RuleOk K R T) (hl:T.length≤256) :
 Calls Tryz.prog 58 #[.int .i64 m,.agg #[.int .i64 K,.int .i64 R,.slice va vn vc]] w (Ret2 (fun x y w'=>OfPost w.heap.size K R T x y w') w):=by
 have b0:=Below.step (belowAlloc w (.cells #[.int .i64 K,.int .i64 R,.slice va vn vc] 24)) (belowAlloc _ (.cells #[.int .i64 0,.slice none 0 0] 54))
 have q:Box3 ((w.alloc (.cells #[.int .i64 K,.int .i64 R,.slice va vn vc] 24)).alloc (.cells #[.int .i64 0,.slice none 0 0] 54)) w.heap.size (.int .i64 K) (.int .i64 R) (.slice va vn vc):=by simp [Box3,go_sem]
 have qa:Box2 ((w.alloc (.cells #[.int .i64 K,.int .i64 R,.slice va vn vc] 24)).alloc (.cells #[.int .i64 0,.slice none 0 0] 54)) (w.heap.size+1) (.int .i64 0) (.slice none 0 0):=by simp [Box2,go_sem]
 obtain ⟨w1,hw1⟩:∃ W:World,(w.alloc (.cells #[.int .i64 K,.int .i64 R,.slice va vn vc] 24)).alloc (.cells #[.int .i64 0,.slice none 0 0] 54)=W:=⟨_,rfl⟩
 rw [hw1] at b0 q qa
 have hwk:=sub_walk r K R va vn vc T w1 (hg.below b0) (hG.below b0) (h.below b0) hok hl
 have hk4:=hok.k4
 have hN1:=pw_pos (K:=K) (2*R) hok.k1
 obtain ⟨RES,hRES⟩:∃ X,wkAll false K (pw K (2*R)) T=X:=⟨_,rfl⟩
 rw [hRES] at hwk
 replace hwk:=Hd hwk
 replace hw1:=Hd hw1
 replace hRES:=Hd hRES
 replace hok:=Hd hok
 replace hN1:=Hd hN1
 obtain ⟨rb,hrb⟩:∃ g,w.heap.size+1=g:=⟨_,rfl⟩
 rw [hrb] at qa
 have hlow:w.heap.size≤rb:=by omega
 replace hrb:=Hd hrb
 clear hg hG h
 obtain ⟨⟨z0,z1,z2⟩,-,-,-⟩:=q
 go_enter Tryz.func58,Tryz.ntmps58
 go_upto_region 1 with fail
 rw [hw1.out,hrb.out]
 go_wp2_with fail
 refine hwk.out.mono ?_
 rintro e w2 ⟨x,y,rfl,b2,hp⟩
 clear z0 z1 z2 hwk
 cases RES with
 | orphan wd=>exact absurd hRES.out (wkGo_no _ _ _ _ _)
 | big =>
  obtain ⟨rfl,hy⟩:=hp
  have bl:=belowAlloc w2 (.cells #[.int .i64 0,.slice none 0 0] 54)
  have b3:=Below.step b2 bl
  have hun:=under_any r sImage m _ y _ (hy.below bl)
  obtain ⟨T1,p1,rfl⟩:=hy.some_shape
  replace qa:=Hd (qa.below b3)
  have b03:=Hd (Below.step b0 b3)
  replace hun:=Hd hun
  clear b2 bl b3 b0 hy
  go_wp2_with fail
  refine hun.out.mono ?_
  rintro e w4 ⟨x,rfl,b4,hx⟩
  obtain ⟨⟨u0,u1⟩,g0,g1⟩:=qa.out.below b4
  obtain ⟨T2,p2,rfl⟩:∃ T a,x=.iface T (.pointer (some a)):=by
   unfold fresh at hx
   unfold under at hx
   exact hx.some_shape
  have bE:=Hd (Below.step b03.out b4)
  replace hx:=Hd hx
  clear hun b4
  go_wp2
  rw [setCell_self u0,setCell_self u1]
  exact bodyPost_ret (v:=.tuple #[.agg #[.int .i64 0,.slice none 0 0],.iface T2 (.pointer (some p2))]) (by simp [results,Tryz.results58,go_sem,u0,u1]) rfl ⟨_,_,rfl,bE.out,⟨fun _=>⟨⟨_,_,rfl⟩,rfl⟩,fun q=>absurd hRES.out q⟩⟩
 | on sets ws X =>
  obtain ⟨rfl,xv,rfl,hX⟩:=hp
  obtain ⟨hauto,hN⟩:=wk_auto hRES.out
  have bl:=belowAlloc w2 (.cells #[.int .i64 K,xv] 54)
  have b3:=Below.step b2 bl
  have hls:=img_least xv X _ (hX.below bl) hauto.ok (by omega) hN
  obtain ⟨xa,xc,rfl⟩:=hX.shape
  have qb:Box2 (w2.alloc (.cells #[.int .i64 K,.slice xa X.length xc] 54)) w2.heap.size (.int .i64 K) (.slice xa X.length xc):=by simp [Box2,go_sem]
  obtain ⟨w3,hw3⟩:∃ W:World,w2.alloc (.cells #[.int .i64 K,.slice xa X.length xc] 54)=W:=⟨_,rfl⟩
  rw [hw3] at hls b3 qb
  obtain ⟨⟨y0,y1⟩,-,-⟩:=qb
  have b03:=Below.step b0 b3
  have rlt:rb<w3.heap.size:=World.block_lt_of_cell? _ _ (qa.below b3).1.1
  replace qa:=Hd (qa.below b3)
  replace hls:=Hd hls
  replace hw3:=Hd hw3
  replace hauto:=Hd hauto
  clear b2 bl b3 b0 hX
  go_upto_region 2 with fail
  rw [hw3.out]
  go_wp2_with fail
  refine hls.out.mono ?_
  rintro e w4 ⟨v,rfl,b4,g,st,Y,yv,rfl,hYl,hsb,hlo,hsm⟩
  obtain ⟨⟨u0,u1⟩,g0,g1⟩:=qa.out.below b4
  have hlang:LangOk K R T st.length Y:=⟨hlo.ok,by omega,fun wd hw=>least_pre hok.out hauto.out hsb hlo hw⟩
  have hfin:=((hYl.store (a:=⟨rb,0,none⟩) rlt (.int .i64 K)).store (a:=⟨rb,1,none⟩) rlt yv).mono b03.size
  have hBE:=((Below.step b03 b4).setCell (show w.heap.size≤(⟨rb,0,none⟩:Addr).block from hlow) (.int .i64 K)).setCell (show w.heap.size≤(⟨rb,1,none⟩:Addr).block from hlow) yv
  have e1:=World.cell?_setCell_same (w4.setCell ⟨rb,0,none⟩ (.int .i64 K)) ⟨rb,1,none⟩ yv ((World.cell?_setCell_other _ _ _ _ (by intro e; simp only [Addr.mk.injEq] at e; omega)).trans u1)
  have e0:=World.cell?_setCell_same w4 ⟨rb,0,none⟩ (.int .i64 K) u0
  obtain ⟨ya,yn,yc,rfl⟩:=hYl.shape
  replace hfin:=Hd hfin
  replace hBE:=Hd hBE
  replace hlang:=Hd hlang
  replace e0:=Hd e0
  replace e1:=Hd e1
  replace hlo:=Hd hlo
  replace hsb:=Hd hsb
  replace hYl:=Hd hYl
  clear hls b03 b4 y0 y1
  go_wp2
  have x0:=e0.out
  have x1:=e1.out
  exact bodyPost_ret (v:=.tuple #[.agg #[.int .i64 K,.slice ya yn yc],.nilIface]) (by simp [results,Tryz.results58,go_sem,x0,x1]) rfl ⟨_,_,rfl,hBE.out,⟨fun q=>(by unfold IsBig at q; rw [hRES.out] at q; cases q),fun _=>⟨rfl,_,Y,_,rfl,hfin.out,hlang.out⟩⟩⟩
theorem img_Least (r:Nat→Addr) (K R:Nat) (va:Option Addr) (vn vc:Nat) (T:List Int) (w:World) (hg:Glob r w) (hG:GlobE w) (h:IntsAt w (.slice va vn vc) T) (hok:RuleOk K R T) (hl:T.length≤256) :
 Calls Tryz.prog 21 #[.agg #[.int .i64 K,.int .i64 R,.slice va vn vc]] w (Ret2 (fun x y w'=>OfPost w.heap.size K R T x y w') w):=by
 have b0:=Below.step (belowAlloc w (.cells #[.int .i64 K,.int .i64 R,.slice va vn vc] 24)) (belowAlloc _ (.cells #[.int .i64 0,.slice none 0 0] 54))
 have q:Box3 ((w.alloc (.cells #[.int .i64 K,.int .i64 R,.slice va vn vc] 24)).alloc (.cells #[.int .i64 0,.slice none 0 0] 54)) w.heap.size (.int .i64 K) (.int .i64 R) (.slice va vn vc):=by simp [Box3,go_sem]
 have qa:Box2 ((w.alloc (.cells #[.int .i64 K,.int .i64 R,.slice va vn vc] 24)).alloc (.cells #[.int .i64 0,.slice none 0 0] 54)) (w.heap.size+1) (.int .i64 0) (.slice none 0 0):=by simp [Box2,go_sem]
 obtain ⟨w1,hw1⟩:∃ W:World,(w.alloc (.cells #[.int .i64 K,.int .i64 R,.slice va vn vc] 24)).alloc (.cells #[.int .i64 0,.slice none 0 0] 54)=W:=⟨_,rfl⟩
 rw [hw1] at b0 q qa
 have hof:=img_of r 0 K R va vn vc T w1 (hg.below b0) (hG.below b0) (h.below b0) hok hl
 obtain ⟨rb,hrb⟩:∃ g,w.heap.size+1=g:=⟨_,rfl⟩
 rw [hrb] at qa
 have hlow:w.heap.size≤rb:=by omega
 have rlt:rb<w1.heap.size:=World.block_lt_of_cell? _ _ qa.1.1
 replace hof:=Hd hof
 replace hw1:=Hd hw1
 replace hrb:=Hd hrb
 clear hg hG h hok
 obtain ⟨⟨z0,z1,z2⟩,-,-,-⟩:=q
 go_enter Tryz.func21,Tryz.ntmps21
 go_upto_region 1 with fail
 rw [hw1.out,hrb.out]
 go_wp2_with fail
 refine hof.out.mono ?_
 rintro e w2 ⟨x,y,rfl,b2,hp⟩
 clear z0 z1 z2 hof
 obtain ⟨⟨u0,u1⟩,g0,g1⟩:=qa.below b2
 have hB2:=Below.step b0 b2
 by_cases hbig:IsBig K R T
 ·obtain ⟨⟨T2,p2,rfl⟩,rfl⟩:=hp.1 hbig
  replace hB2:=Hd hB2
  replace hp:=Hd hp
  clear b2
  go_wp2
  rw [setCell_self u0,setCell_self u1]
  exact bodyPost_ret (v:=.tuple #[.agg #[.int .i64 0,.slice none 0 0],.iface T2 (.pointer (some p2))]) (by simp [results,Tryz.results21,go_sem,u0,u1]) rfl ⟨_,_,rfl,hB2.out,⟨fun _=>⟨⟨_,_,rfl⟩,rfl⟩,fun q=>absurd hbig q⟩⟩
 ·obtain ⟨rfl,M,Y,yv,rfl,hYl,hlang⟩:=hp.2 hbig
  have hfin:=((hYl.store (a:=⟨rb,0,none⟩) rlt (.int .i64 K)).store (a:=⟨rb,1,none⟩) rlt yv).mono b0.size
  have hBE:=(hB2.setCell (show w.heap.size≤(⟨rb,0,none⟩:Addr).block from hlow) (.int .i64 K)).setCell (show w.heap.size≤(⟨rb,1,none⟩:Addr).block from hlow) yv
  have e1:=World.cell?_setCell_same (w2.setCell ⟨rb,0,none⟩ (.int .i64 K)) ⟨rb,1,none⟩ yv ((World.cell?_setCell_other _ _ _ _ (by intro e; simp only [Addr.mk.injEq] at e; omega)).trans u1)
  have e0:=World.cell?_setCell_same w2 ⟨rb,0,none⟩ (.int .i64 K) u0
  obtain ⟨ya,yn,yc,rfl⟩:=hYl.shape
  replace hfin:=Hd hfin
  replace hBE:=Hd hBE
  replace hlang:=Hd hlang
  replace e0:=Hd e0
  replace e1:=Hd e1
  replace hYl:=Hd hYl
  replace hp:=Hd hp
  replace hbig:=Hd hbig
  clear hB2 b2
  go_wp2
  have x0:=e0.out
  have x1:=e1.out
  exact bodyPost_ret (v:=.tuple #[.agg #[.int .i64 K,.slice ya yn yc],.nilIface]) (by simp [results,Tryz.results21,go_sem,x0,x1]) rfl ⟨_,_,rfl,hBE.out,⟨fun q=>absurd q hbig.out,fun _=>⟨rfl,_,Y,_,rfl,hfin.out,hlang.out⟩⟩⟩
theorem img_words_bad (r:Nat→Addr) (k R:Int) (va:Option Addr) (vn vc:Nat) (T:List Int) (m:Int) (t:Int×List (ByteArray×Int)) (w:World) (hg:Glob r w) (hG:GlobE w) (h:IntsAt w (.slice va vn vc) T) (hc:smallP k R T=some t) :
 Calls Tryz.prog 20 #[.agg #[.int .i64 k,.int .i64 R,.slice va vn vc],.int .i64 m] w (Ret2 (fun x y _=>SomeErr y∧x=.slice none 0 0) w):=by
 have b0:=belowAlloc w (.cells #[.int .i64 k,.int .i64 R,.slice va vn vc] 24)
 have q:Box3 (w.alloc (.cells #[.int .i64 k,.int .i64 R,.slice va vn vc] 24)) w.heap.size (.int .i64 k) (.int .i64 R) (.slice va vn vc):=by simp [Box3,go_sem]
 obtain ⟨w1,hw1⟩:∃ W:World,w.alloc (.cells #[.int .i64 k,.int .i64 R,.slice va vn vc] 24)=W:=⟨_,rfl⟩
 rw [hw1] at b0 q
 have hof:=imgof_bad r 0 k R va vn vc T t w1 (hg.below b0) (hG.below b0) (h.below b0) hc
 replace hof:=Hd hof
 replace hw1:=Hd hw1
 clear hg hG h hc
 obtain ⟨⟨z0,z1,z2⟩,-,-,-⟩:=q
 go_enter Tryz.func20,Tryz.ntmps20
 go_upto_region 1 with fail
 rw [hw1.out]
 go_wp2_with fail
 refine hof.out.mono ?_
 rintro e w2 ⟨_,x,rfl,b2,rfl,hx⟩
 obtain ⟨T2,p2,rfl⟩:∃ T a,x=.iface T (.pointer (some a)):=by
  unfold under at hx
  exact hx.some_shape
 have bE:=Below.step (Below.step b0 b2) (belowAlloc w2 (.cells #[.int .i64 0,.slice none 0 0] 54))
 replace bE:=Hd bE
 clear z0 z1 z2 hof b0 b2 hx
 go_wp2
 go_ret2
 exact ⟨_,_,rfl,bE.out,⟨_,_,rfl⟩,rfl⟩
theorem sum_takeS {ns:List Nat} {M:Nat} (h:AllLe ns M) (i:Nat):(ns.take i).sum≤ns.length*M:=by
 rcases Nat.le_total i ns.length with hi | hi
 ·exact Nat.le_trans (sum_take_le h i) (Nat.mul_le_mul_right _ hi)
 ·have:=sum_take_le h ns.length
  rw [List.take_length] at this
  rw [List.take_of_length_le hi]; exact this
theorem words_small {K n M:Nat} (hK:K≤4) (hn:n≤8) (hM:M≤4096):pw K n≤65536∧M*(pw K n*K)≤4 ^ 20:=by
 have h1:pw K n≤65536:=by
  have:pw K n=K ^ n:=by
   have:=pw_mul K 1 n
   simp only [Nat.mul_one] at this
   rw [this]; congr 1; simp [pw]
  rw [this]
  exact Nat.le_trans (Nat.pow_le_pow_left hK n) (Nat.le_trans (Nat.pow_le_pow_right (by decide) hn) (by decide))
 refine ⟨h1,?_⟩
 have h2:pw K n*K≤65536*4:=Nat.mul_le_mul h1 hK
 have h3:M*(pw K n*K)≤4096*(65536*4):=Nat.mul_le_mul hM h2
 exact Nat.le_trans h3 (by decide)
def ImgWPost (K R n:Nat) (T:List Int) (v y:Value) (w':World):Prop :=
 (IsBig K R T→SomeErr y∧v=.slice none 0 0)∧(¬ IsBig K R T→y=.nilIface∧∃ M Y,LangOk K R T M Y∧NumAt w' v (cntL Y K M n).sum)
theorem img_words (r:Nat→Addr) (K R n:Nat) (va:Option Addr) (vn vc:Nat) (T:List Int) (w:World) (hg:Glob r w) (hG:GlobE w) (h:IntsAt w (.slice va vn vc) T) (hok:RuleOk K R T) (hl:T.length≤256) (hn8:n≤8) :
 Calls Tryz.prog 20 #[.agg #[.int .i64 K,.int .i64 R,.slice va vn vc],.int .i64 n] w (Ret2 (fun x y w'=>ImgWPost K R n T x y w') w):=by
 have b0:=belowAlloc w (.cells #[.int .i64 K,.int .i64 R,.slice va vn vc] 24)
 have q:Box3 (w.alloc (.cells #[.int .i64 K,.int .i64 R,.slice va vn vc] 24)) w.heap.size (.int .i64 K) (.int .i64 R) (.slice va vn vc):=by simp [Box3,go_sem]
 obtain ⟨w1,hw1⟩:∃ W:World,w.alloc (.cells #[.int .i64 K,.int .i64 R,.slice va vn vc] 24)=W:=⟨_,rfl⟩
 rw [hw1] at b0 q
 have hof:=img_of r 0 K R va vn vc T w1 (hg.below b0) (hG.below b0) (h.below b0) hok hl
 have hk1:=hok.k1
 have hk4:=hok.k4
 replace hof:=Hd hof
 replace hw1:=Hd hw1
 clear hg hG h hok
 obtain ⟨⟨z0,z1,z2⟩,-,-,-⟩:=q
 go_enter Tryz.func20,Tryz.ntmps20
 go_upto_region 1 with fail
 rw [hw1.out]
 go_wp2_with fail
 refine hof.out.mono ?_
 rintro e w2 ⟨x,y,rfl,b2,hp⟩
 have b02:=Below.step b0 b2
 clear z0 z1 z2 hof b0 b2
 by_cases hbig:IsBig K R T
 ·obtain ⟨⟨T2,p2,rfl⟩,rfl⟩:=hp.1 hbig
  have bE:=Below.step b02 (belowAlloc w2 (.cells #[.int .i64 0,.slice none 0 0] 54))
  replace bE:=Hd bE
  replace hp:=Hd hp
  replace hbig:=Hd hbig
  go_wp2
  go_ret2
  exact ⟨_,_,rfl,bE.out,⟨fun _=>⟨⟨_,_,rfl⟩,rfl⟩,fun q=>absurd hbig.out q⟩⟩
 ·obtain ⟨rfl,M,Y,yv,rfl,hYf,hlang⟩:=hp.2 hbig
  have hY:=hYf.lists
  have hYl:=hlang.ok.len
  have hM:=hlang.le
  have hM1:=hlang.ok.n1
  obtain ⟨ya,yc,rfl⟩:=hY.shape
  have lY:=fun ty w'=>hY.len ty w'
  rw [hYl] at hY lY
  rw [hYl]
  have bl:=belowAlloc w2 (.cells #[.int .i64 K,.slice ya M yc] 54)
  have ca:(w2.alloc (.cells #[.int .i64 K,.slice ya M yc] 54)).cell? ⟨w2.heap.size,1,none⟩=some (.slice ya M yc):=by simp [go_sem]
  obtain ⟨w3,hw3⟩:∃ W:World,w2.alloc (.cells #[.int .i64 K,.slice ya M yc] 54)=W:=⟨_,rfl⟩
  obtain ⟨ab,hab⟩:∃ ab,w2.heap.size=ab:=⟨_,rfl⟩
  rw [hw3] at bl ca
  rw [hab] at ca
  have b03:=Below.step b02 bl
  replace hY:=Hd (hY.below bl)
  replace hw3:=Hd hw3
  replace hab:=Hd hab
  replace hp:=Hd hp
  replace hYf:=Hd hYf
  replace hlang:=Hd hlang
  replace hYl:=Hd hYl
  replace hbig:=Hd hbig
  have dn0:decide ((n:Int)<0)=false:=decide_eq_false (by omega)
  have dn1:decide ((n:Int)>256)=false:=decide_eq_false (by omega)
  clear b02 bl
  go_upto_region 2 with fail
  rw [hw3.out,hab.out]
  go_wp2_with (at_make; refine wpl_makeV oneNats rfl _ _ rfl (M:Int) rfl rfl (by omega) (by omega) ?_)
  intro av w4 ho4 g4
  replace ho4:OwnV 35 w3.heap.size w4 av (List.replicate M (.slice none 0 0)):=by simpa using ho4
  have b4:Below w3.heap.size w3 w4:=(Below.refl _ _).grown g4 (Nat.le_refl _) (by intro k hk; cases hk)
  obtain ⟨aa,an,ac,rfl⟩:=ho4.shape
  have h0l:0<(List.replicate M (Value.slice none 0 0)).length:=by simp; omega
  have lA:∀ w',(Builtin.len_ #[110] 3 #[.slice aa an ac]).run Tryz.prog w'=.ok (.int .i64 (M:Int)) w':=fun w'=>by
   have:=ho4.at.len oneNats 3 w'
   simpa using this
  replace ho4:=Hd ho4
  clear g4
  go_wp2_with fail
  refine (nat_from 1 w4 (by decide)).mono ?_
  rintro e w5 ⟨x1,rfl,b5,hx1⟩
  obtain ⟨xa,xn,xc,rfl⟩:=hx1.num.shape
  have hO5:=ho4.out.below b5
  have iX:∀ w',(Instr.indexAt 110 (.slice aa an ac) (.int .i64 0)).run Tryz.prog w'=.ok (.pointer (some (valAt (.slice aa an ac) 0))) w':=fun w'=>hO5.at.idx oneNats 0 h0l w'
  have cX:=hO5.at.cell 0 h0l
  rw [List.getElem_replicate] at cX
  have fX:=hO5.frz 0 h0l
  have hO6:=hO5.set 0 h0l (.slice xa xn xc)
  have hB6:=(Below.step b4 b5).setCell (hO5.blkB 0 h0l).2 (.slice xa xn xc)
  have hS6:=((NumsIn.zeros w5 M).set cX (by intro x h; cases h) (.slice xa xn xc)).upd 0 (hx1.num.set cX (by intro x h; cases h) (.slice xa xn xc))
  rw [← cntL_zero (K:=K) (N:=M) (X:=Y)] at hS6
  obtain ⟨A,hA⟩:∃ A,valAt (.slice aa an ac) 0=A:=⟨_,rfl⟩
  rw [hA] at iX cX fX hO6 hB6 hS6
  have hV6:=hO6.at
  replace hV6:=Hd hV6
  replace hS6:=Hd hS6
  replace hB6:=Hd hB6
  replace hA:=Hd hA
  replace hO5:=Hd hO5
  replace hO6:=Hd hO6
  replace hx1:=Hd hx1
  obtain ⟨hp1,hp2⟩:=words_small (K:=K) (n:=n) (M:=M) hk4 hn8 hM
  replace hp1:=Hd hp1
  replace hp2:=Hd hp2
  clear b4 b5 ho4
  go_wp2
  go_loopw [8,38] (fun av jv wr=>∃ (j:Nat) (aw:Value) (avs:List Value),aw=av∧jv=.int .i64 j∧j≤n∧ValsAt wr aw avs∧NumsIn wr avs (cntL Y K M j)∧Below w3.heap.size w3 wr) (fun _ jv _=>n-(intOf jv).toNat)
  case atStart=>exact ⟨0,_,_,rfl,rfl,Nat.zero_le _,hV6.out,hS6.out,hB6.out⟩
  case round =>
   clear hV6 hS6 hB6 hO6 hO5 cX fX iX lA
   obtain ⟨j,aw,avs,rfl,rfl,hj,hAv,hAn,hB⟩:=hrel
   obtain ⟨wo,rfl⟩:∃ wo:World,wo=wr:=⟨_,rfl⟩
   have haM:avs.length=M:=by rw [hAn.len,cntL_len]
   have lA:∀ w',(Builtin.len_ #[110] 3 #[aw]).run Tryz.prog w'=.ok (.int .i64 (M:Int)) w':=fun w'=>by
    have:=hAv.len oneNats 3 w'
    rw [haM] at this; exact this
   obtain ⟨aa,ac,rfl⟩:∃ a c,aw=.slice a avs.length c:=by
    obtain ⟨a,c,e,-⟩:=hAv
    exact ⟨a,c,e⟩
   rw [haM] at hAv lA ⊢
   have hBs:=hB.size
   by_cases hjn:j<n
   ·have dj:decide ((j:Int)<(n:Int))=true:=decide_eq_true (by omega)
    have hcl:=fun u=>cntL_le (X:=Y) (K:=K) (N:=M) (n:=j) u
    have hps:pw K j≤pw K n:=pw_mono hk1 (by omega)
    replace hAv:=Hd hAv
    replace hAn:=Hd hAn
    replace haM:=Hd haM
    replace hcl:=Hd hcl
    replace hps:=Hd hps
    go_wp2_with (at_make; refine wpl_makeV oneNats rfl _ _ rfl (M:Int) rfl rfl (by omega) (by omega) ?_)
    intro nv w7 ho7 g7
    replace ho7:OwnV 35 wo.heap.size w7 nv (List.replicate M (.slice none 0 0)):=by simpa using ho7
    have b7:Below wo.heap.size wo w7:=(Below.refl _ _).grown g7 (Nat.le_refl _) (by intro k hk; cases hk)
    obtain ⟨na,nn,nc,rfl⟩:=ho7.shape
    replace ho7:=Hd ho7
    clear g7
    go_wp2
    go_loopw [45] (fun iv wr=>∃ (i:Nat) (nvs:List Value),iv=.int .i64 i∧i≤M∧OwnV 35 wo.heap.size wr (.slice na nn nc) nvs∧NumsIn wr nvs (allC Y K M (cntL Y K M j) i)∧Below wo.heap.size wo wr) (fun iv _=>M-(intOf iv).toNat)
    case atStart=>exact ⟨0,_,rfl,Nat.zero_le _,ho7.out,NumsIn.zeros _ _,b7⟩
    case round =>
     clear ho7 b7
     obtain ⟨i,nvs,rfl,hi,hO,hS,hBi⟩:=hrel
     obtain ⟨wi,rfl⟩:∃ wo:World,wo=wr:=⟨_,rfl⟩
     by_cases hiM:i<M
     ·have di:decide ((i:Int)<(M:Int))=true:=decide_eq_true (by omega)
      have hAi:=hAv.out.below hBi
      have hia:i<avs.length:=by rw [haM.out]; exact hiM
      have iA:=fun w'=>hAi.idx oneNats i hia w'
      have cA:=hAi.cell i hia
      have nA:=hAn.out.each i (by rw [cntL_len]; exact hiM)
      rw [getD_at hia] at nA
      obtain ⟨mv,hmv⟩:∃ v,avs[i]'hia=v:=⟨_,rfl⟩
      rw [hmv] at cA nA
      obtain ⟨ma,mn,mc,rfl⟩:=nA.shape
      obtain ⟨pA,hpA⟩:∃ a,valAt (.slice aa M ac) i=a:=⟨_,rfl⟩
      rw [hpA] at iA cA
      have hBw:=hB.trans (hBi.mono hBs)
      have cB:=cell_keep hBw ca
      obtain ⟨rv,iY,cY3,hRr⟩:=hY.out.row i (by rw [hYl.out]; exact hiM)
      have cY:=(hBw.cell (World.block_lt_of_cell? _ _ cY3)).trans cY3
      have hrl:=hlang.out.ok.row i hiM
      have hxhi:∀ s,s<K→(Y.getD i []).getD s 0<M:=fun s hs=>hlang.out.ok.hi i s hiM hs
      have hci:=hcl.out i
      have hrowle:∀ s,s≤K→∀ t,(rowC (Y.getD i []) ((cntL Y K M j).getD i 0) (allC Y K M (cntL Y K M j) i) s).getD t 0≤M*(pw K j*K):=fun s hs t=>rowC_le hcl.out hiM hs t
      have hall:allC Y K M (cntL Y K M j) (i+1)=rowC (Y.getD i []) ((cntL Y K M j).getD i 0) (allC Y K M (cntL Y K M j) i) K:=rfl
      have hqlen:=allC_len Y K M (cntL Y K M j) i
      obtain ⟨xs,hxs⟩:∃ xs,Y.getD i []=xs:=⟨_,rfl⟩
      obtain ⟨c,hc⟩:∃ c,(cntL Y K M j).getD i 0=c:=⟨_,rfl⟩
      obtain ⟨Q,hQ⟩:∃ Q,allC Y K M (cntL Y K M j) i=Q:=⟨_,rfl⟩
      rw [hxs] at hRr hrl hxhi hrowle hall
      rw [hc] at nA hci hrowle hall
      rw [hQ] at hS hrowle hall hqlen
      have lR:=fun w=>hRr.len w
      rw [hrl] at lR
      obtain ⟨ra,rn,rc,rfl⟩:=hRr.shape
      obtain ⟨pY,hpY⟩:∃ a,valAt (.slice ya M yc) i=a:=⟨_,rfl⟩
      rw [hpY] at iY cY
      clear cY3
      replace hall:=Hd hall
      replace hrowle:=Hd hrowle
      replace hxhi:=Hd hxhi
      replace hqlen:=Hd hqlen
      replace hci:=Hd hci
      replace nA:=Hd nA
      replace hRr:=Hd hRr
      replace hrl:=Hd hrl
      replace hO:=Hd hO
      replace hS:=Hd hS
      replace hAi:=Hd hAi
      clear hpA hpY hmv hxs hc hQ
      go_wp2
      go_loopw [56] (fun sv wr=>∃ (s:Nat) (nvs:List Value),sv=.int .i64 s∧s≤K∧OwnV 35 wo.heap.size wr (.slice na nn nc) nvs∧NumsIn wr nvs (rowC xs c Q s)∧Below wo.heap.size wo wr) (fun sv _=>K-(intOf sv).toNat)
      case atStart=>exact ⟨0,_,rfl,Nat.zero_le _,hO.out,hS.out,hBi⟩
      case round =>
       clear hO hS
       obtain ⟨s,mvs,rfl,hs,hO,hS,hBk⟩:=hrel
       obtain ⟨wk,rfl⟩:∃ wo:World,wo=wr:=⟨_,rfl⟩
       by_cases hsK:s<K
       ·have ds:decide ((s:Int)<(K:Int))=true:=decide_eq_true (by omega)
        have hsx:s<xs.length:=by rw [hrl.out]; exact hsK
        have hRk:=hRr.out.below (hB.trans (hBk.mono hBs))
        have iR:=fun w'=>hRk.idx s hsx w'
        have cR:=hRk.cellD s hsx
        have hth:=hxhi.out s hsK
        have neg:=fun h=>rowC_neg (row:=xs) (c:=c) (q:=Q) (j:=s) h
        have pos:=fun h=>rowC_pos (row:=xs) (c:=c) (q:=Q) (j:=s) h
        have hrl2:=rowC_len xs c Q s
        have hle2:=hrowle.out s hs
        rw [hqlen.out] at hrl2
        obtain ⟨S1,hS1⟩:∃ S,rowC xs c Q (s+1)=S:=⟨_,rfl⟩
        obtain ⟨S0,hS0⟩:∃ S,rowC xs c Q s=S:=⟨_,rfl⟩
        rw [hS1] at neg pos
        rw [hS0] at hS neg pos hrl2 hle2
        obtain ⟨t,ht⟩:∃ t,xs.getD s 0=t:=⟨_,rfl⟩
        rw [ht] at cR hth neg pos
        obtain ⟨pR,hpR⟩:∃ a,valAt (.slice ra rn rc) s=a:=⟨_,rfl⟩
        rw [hpR] at iR cR
        replace hS1:=Hd hS1
        replace hS0:=Hd hS0
        replace ht:=Hd ht
        replace hle2:=Hd hle2
        clear hpR hRk
        by_cases htn:t<0
        ·have dt:decide (t≥0)=false:=decide_eq_false (by omega)
         have e:=neg htn
         replace e:=Hd e
         replace hO:=Hd hO
         replace hS:=Hd hS
         replace neg:=Hd neg
         replace pos:=Hd pos
         replace hrl2:=Hd hrl2
         go_wp2
         go_roundw
         case measure=>simp [intOf]; omega
         case rel=>exact ⟨s+1,_,by go_num,by omega,hO.out,by rw [hS1.out,e.out]; exact hS.out,hBk⟩
        ·obtain ⟨tn,rfl⟩:∃ tn:Nat,t=tn:=Int.eq_ofNat_of_zero_le (by omega)
         have htM:tn<M:=by omega
         have dt:decide ((tn:Int)≥0)=true:=decide_eq_true (by omega)
         have e:=pos htn
         rw [Int.toNat_natCast] at e
         have nAk:=nA.out.below hBk
         have hmz0:=num_zero nAk
         replace neg:=Hd neg
         replace pos:=Hd pos
         by_cases hmz:mn=0
         ·obtain rfl:c=0:=hmz0.1 hmz
          rw [set_same] at e
          subst hmz
          replace e:=Hd e
          replace hO:=Hd hO
          replace hS:=Hd hS
          replace nAk:=Hd nAk
          replace hmz0:=Hd hmz0
          replace hrl2:=Hd hrl2
          go_wp2
          go_roundw
          case measure=>simp [intOf]; omega
          case rel=>exact ⟨s+1,_,by go_num,by omega,hO.out,by rw [hS1.out,e.out]; exact hS.out,hBk⟩
         ·have hmp:0<mn:=by omega
          have dm:decide ((mn:Int)>0)=true:=decide_eq_true (by omega)
          replace hmz:=Hd hmz
          have hul:tn<mvs.length:=by rw [hS.len,hrl2]; exact htM
          have iU:=fun w'=>hO.at.idx oneNats tn hul w'
          have cU:=hO.at.cell tn hul
          have nU:=hS.each tn (by rw [hrl2]; exact htM)
          rw [getD_at hul] at nU
          obtain ⟨uv,huv⟩:∃ v,mvs[tn]'hul=v:=⟨_,rfl⟩
          rw [huv] at cU nU
          obtain ⟨ua,un,uc,rfl⟩:=nU.shape
          obtain ⟨xu,hxu⟩:∃ a,valAt (.slice na nn nc) tn=a:=⟨_,rfl⟩
          rw [hxu] at iU cU
          have h20:M*(pw K j*K)≤4 ^ 20:=Nat.le_trans (Nat.mul_le_mul_left _ (Nat.mul_le_mul_right _ hps.out)) hp2.out
          have hadd:=nat_addN (.slice ua un uc) (.slice ma mn mc) _ _ wk nU nAk (Nat.le_trans (hle2.out tn) (Nat.le_trans h20 (Nat.pow_le_pow_right (by decide) (by unfold eB; omega)))) (Nat.le_trans hci.out (Nat.le_trans hps.out (Nat.le_trans hp1.out (Nat.le_trans (show 65536≤4 ^ 8 by decide) (Nat.pow_le_pow_right (by decide) (by unfold eB; omega))))))
          have hxb:xu.block<wk.heap.size:=World.block_lt_of_cell? _ _ cU
          replace hadd:=Hd hadd
          replace e:=Hd e
          replace hO:=Hd hO
          replace hS:=Hd hS
          replace nAk:=Hd nAk
          replace nU:=Hd nU
          replace hmz0:=Hd hmz0
          replace huv:=Hd huv
          replace hxu:=Hd hxu
          clear h20
          go_wp2_with fail
          refine hadd.out.mono ?_
          rintro e8 w8 ⟨x8,rfl,b8,hx8⟩
          have hO8:=hO.out.below b8
          have cU8:=(b8.cell hxb).trans cU
          have fU8:=hO8.frz tn hul
          rw [hxu.out] at fU8
          obtain ⟨xa8,xn8,xc8,rfl⟩:=hx8.num.shape
          have hO9:=hO8.set tn hul (.slice xa8 xn8 xc8)
          have hS9:=((hS.out.below b8).set cU8 (by intro x h; cases h) (.slice xa8 xn8 xc8)).upd tn (hx8.num.set cU8 (by intro x h; cases h) (.slice xa8 xn8 xc8))
          rw [← e.out] at hS9
          have hblk:=(hO8.blkB tn hul).2
          rw [hxu.out] at hO9 hblk
          have hB9:=(hBk.trans (b8.mono hBk.size)).setCell hblk (.slice xa8 xn8 xc8)
          replace hO9:=Hd hO9
          replace hS9:=Hd hS9
          replace hO8:=Hd hO8
          replace hx8:=Hd hx8
          clear b8 hblk cU
          go_wp2
          go_roundw
          case measure=>simp [intOf]; omega
          case rel=>exact ⟨s+1,_,by go_num,by omega,hO9.out,by rw [hS1.out]; exact hS9.out,hB9⟩
       ·obtain rfl:K=s:=by omega
        have ds:decide ((K:Int)<(K:Int))=false:=decide_eq_false (by omega)
        replace hO:=Hd hO
        replace hS:=Hd hS
        go_wp2
        go_roundw
        case measure=>simp [intOf]; omega
        case rel=>exact ⟨i+1,_,by go_num,by omega,hO.out,by rw [hall.out]; exact hS.out,hBk⟩
     ·obtain rfl:M=i:=by omega
      have di:decide ((M:Int)<(M:Int))=false:=decide_eq_false (by omega)
      rw [cnt_step hk1 hlang.out.ok] at hS
      have hVn:=hO.at
      have hBf:=hB.trans (hBi.mono hBs)
      replace hO:=Hd hO
      replace hVn:=Hd hVn
      replace hS:=Hd hS
      go_wp2
      go_roundw
      case measure=>simp [intOf]; omega
      case rel=>exact ⟨j+1,_,_,rfl,by go_num,by omega,hVn.out,hS.out,hBf⟩
   ·obtain rfl:n=j:=by omega
    have dj:decide ((n:Int)<(n:Int))=false:=decide_eq_false (by omega)
    have hcl:AllLe (cntL Y K M n) (4 ^ 8):=fun u=>Nat.le_trans (cntL_le u) (Nat.le_trans hp1.out (by decide))
    have hts:∀ i,((cntL Y K M n).take i).sum≤4 ^ eB:=fun i=>Nat.le_trans (sum_takeS hcl i) (Nat.le_trans (show (cntL Y K M n).length*4 ^ 8≤4 ^ 14 by
     rw [cntL_len]
     exact Nat.le_trans (Nat.mul_le_mul_right _ hM) (by decide)) (Nat.pow_le_pow_right (by decide) (by unfold eB; omega)))
    have hsum:=nat_sumB (.slice aa M ac) avs (cntL Y K M n) wo hAv hAn (fun u=>Nat.le_trans (hcl u) (Nat.pow_le_pow_right (by decide) (by unfold eB; omega))) hts (by rw [cntL_len]; omega)
    replace hsum:=Hd hsum
    replace hAv:=Hd hAv
    replace hAn:=Hd hAn
    replace hcl:=Hd hcl
    replace hts:=Hd hts
    go_wp2_with fail
    refine hsum.out.mono ?_
    rintro e w9 ⟨x,rfl,b9,hx⟩
    obtain ⟨xa,xn,xc,rfl⟩:=hx.shape
    have bE:=Below.step b03 (hB.trans (b9.mono hBs))
    replace hx:=Hd hx
    replace bE:=Hd bE
    clear hsum
    go_wp2
    go_ret2
    exact ⟨_,_,rfl,bE.out,⟨fun q=>absurd q hbig.out,fun _=>⟨rfl,M,Y,hlang.out,hx.out⟩⟩⟩
theorem runA_stop {X:List (List Int)} {ws:List Int}:∀ (n i:Nat),i+n=ws.length→runA X (ws.take i)<0→runA X ws<0
 | 0,i,e,h=>by
  rw [List.take_of_length_le (by omega)] at h; exact h
 | n+1,i,e,h=>by
  refine runA_stop n (i+1) (by omega) ?_
  rw [take_snoc ws i (by omega),runA_snoc]
  unfold stepA
  rw [if_pos h]; decide
theorem runA_next {X:List (List Int)} {ws:List Int} {i:Nat} (hi:i<ws.length) {q:Nat} (h:runA X (ws.take i)=q):runA X (ws.take (i+1))=(X.getD q []).getD (ws.getD i 0).toNat 0:=by
 rw [take_snoc ws i hi,runA_snoc,h]
 unfold stepA nextA
 rw [if_neg (by omega),Int.toNat_natCast]
 simp [List.getD,hi]
theorem runs_any {K M:Nat} (yv u:Value) (Y:List (List Int)) (ws:List Int) (w:World) (hY:ListsAt w yv Y) (ok:AutoOk K M Y) (hu:IntsAt w u ws) (hs:Syms K ws) (hl:ws.length≤100000) :
 Calls Tryz.prog 23 #[.agg #[.int .i64 K,yv],u] w (Ret1 (fun x _=>x=.bool (decide (0≤runA Y ws))) w):=by
 obtain ⟨RB,hRB⟩:∃ b,decide (0≤runA Y ws)=b:=⟨_,rfl⟩
 rw [hRB]
 replace hRB:=Hd hRB
 obtain ⟨ya,yc,rfl⟩:=hY.shape
 have hYl:=ok.len
 rw [hYl] at hY ⊢
 obtain ⟨ua,un,uc,rfl⟩:=hu.shape
 have lu:=fun w=>hu.len w
 have b0:=belowAlloc w (.cells #[.int .i64 K,.slice ya M yc] 54)
 have ca:(w.alloc (.cells #[.int .i64 K,.slice ya M yc] 54)).cell? ⟨w.heap.size,1,none⟩=some (.slice ya M yc):=by simp [go_sem]
 have lY:=fun ty w'=>hY.len ty w'
 rw [hYl] at lY
 obtain ⟨w0,hw0⟩:∃ W:World,w.alloc (.cells #[.int .i64 K,.slice ya M yc] 54)=W:=⟨_,rfl⟩
 obtain ⟨ab,hab⟩:∃ ab,w.heap.size=ab:=⟨_,rfl⟩
 rw [hw0] at b0 ca
 rw [hab] at ca
 have ok1:=ok.n1
 replace hY:=Hd (hY.below b0)
 replace hu:=Hd (hu.below b0)
 replace ok:=Hd ok
 replace hs:=Hd hs
 replace hw0:=Hd hw0
 replace hab:=Hd hab
 replace hYl:=Hd hYl
 go_enter Tryz.func23,Tryz.ntmps23
 go_upto_region 1 with fail
 rw [hw0.out,hab.out]
 go_wp2_with fail
 go_loopw [5,6] (fun qv iv wr=>∃ (i n:Nat) (q:Int),qv=.int .i64 q∧iv=.int .i64 i∧i≤ws.length∧q=runA Y (ws.take i)∧wr=w0.drewN n) (fun _ iv _=>ws.length-(intOf iv).toNat)
 case atStart=>exact ⟨0,0,_,rfl,rfl,Nat.zero_le _,rfl,rfl⟩
 case round =>
  obtain ⟨i,n,q,rfl,rfl,hi,hq,rfl⟩:=hrel
  have bE:=Hd (Below.step b0 (below_drewN (Below.refl w0.heap.size w0) n))
  by_cases hil:i<ws.length
  ·have di:decide ((i:Int)<(ws.length:Int))=true:=decide_eq_true (by omega)
   by_cases hqn:q<0
   ·have dq:decide (q<0)=true:=decide_eq_true hqn
    have hfin:RB=false:=hRB.out.symm.trans (decide_eq_false (by
     have:=runA_stop (X:=Y) (ws:=ws) (ws.length-i) i (by omega) (by rw [← hq]; exact hqn)
     omega))
    replace hfin:=Hd hfin
    replace hq:=Hd hq
    go_wp2
    go_quiet (fail)
    go_wp2
    go_ret
    exact ⟨_,rfl,Below.step b0 (below_drewN (below_drewN (Below.refl w0.heap.size w0) _) _),congrArg Value.bool hfin.out.symm⟩
   ·obtain ⟨qn,rfl⟩:∃ qn:Nat,q=qn:=Int.eq_ofNat_of_zero_le (by omega)
    have dq:decide ((qn:Int)<0)=false:=decide_eq_false hqn
    have hrun:=ok.out.run (ws.take i) (fun x hx=>hs.out x (List.mem_of_mem_take hx))
    rw [← hq] at hrun
    have hqM:qn<M:=by omega
    have dM:decide ((qn:Int)≥(M:Int))=false:=decide_eq_false (by omega)
    obtain ⟨mv,iY,cY,hR⟩:=hY.out.row qn (by rw [hYl.out]; exact hqM)
    have hRl:=ok.out.row qn hqM
    have hnx:=runA_next hil hq.symm
    have iU:=fun w'=>hu.out.idx i hil w'
    have cU:=hu.out.cellD i hil
    have hx:=hs.out (ws.getD i 0) (by simp [List.getD,hil])
    obtain ⟨x,hxe⟩:∃ x,ws.getD i 0=x:=⟨_,rfl⟩
    rw [hxe] at cU hx hnx
    obtain ⟨xn,rfl⟩:∃ xn:Nat,x=xn:=Int.eq_ofNat_of_zero_le hx.1
    have dx:decide ((xn:Int)≥(K:Int))=false:=decide_eq_false (by omega)
    have lR:=fun w=>hR.len w
    rw [hRl] at lR
    have iR:=fun w'=>hR.idx xn (by rw [hRl]; omega) w'
    have cR:=hR.cellD xn (by rw [hRl]; omega)
    rw [Int.toNat_natCast] at hnx
    obtain ⟨y,hy⟩:∃ y,(Y.getD qn []).getD xn 0=y:=⟨_,rfl⟩
    rw [hy] at cR hnx
    obtain ⟨ma,mn,mc,rfl⟩:=hR.shape
    obtain ⟨pY,hpY⟩:∃ p,valAt (.slice ya M yc) qn=p:=⟨_,rfl⟩
    obtain ⟨pU,hpU⟩:∃ p,valAt (.slice ua un uc) i=p:=⟨_,rfl⟩
    obtain ⟨pR,hpR⟩:∃ p,valAt (.slice ma mn mc) xn=p:=⟨_,rfl⟩
    rw [hpY] at iY cY
    rw [hpU] at iU cU
    rw [hpR] at iR cR
    replace hnx:=Hd hnx
    replace hq:=Hd hq
    replace hRl:=Hd hRl
    replace hR:=Hd hR
    clear hpY hpU hpR hy hxe
    go_wp2
    go_quiet (fail)
    go_wp2
    go_quiet (fail)
    go_wp2
    go_roundw
    case measure=>simp [intOf]; omega
    case rel=>exact ⟨i+1,_,_,rfl,by go_num,by omega,hnx.out.symm,rfl⟩
  ·obtain rfl:i=ws.length:=by omega
   have di:decide ((ws.length:Int)<(ws.length:Int))=false:=decide_eq_false (by omega)
   rw [List.take_length] at hq
   subst hq
   have dq:decide (runA Y ws≥0)=RB:=hRB.out
   go_wp2
   go_ret
   exact ⟨_,rfl,bE.out,rfl⟩
end Go.Proofs.YtkaoebokbfcmhaaGreatDoor
