/-
  Texts that the proof leans on.
-/
import Derived.Test.YtindfaehjoileaaGreatDoorMSn5
import Derived.Ground.SlgmProg
import Derived.Shelf.SlGeneric
import Derived.Shelf.SortM.Plain
import Derived.Shelf.SortM.SortNone
import Derived.Lib.SlKeysI
import Derived.Deep.DeepCutAuto
import Derived.BigQuiet
import Derived.Deep.QuietTactic
import Derived.Ground.NamesProg
import Derived.Shelf.Slices.Cells
namespace Go.Proofs.YtindfaehjoileaaGreatDoor
open Go.RowKit Go.Shelf Go.Sort
set_option maxRecDepth 100000
def Tryz.laysSort_ren:Go.Shelf.Ren:=⟨fun | 5=>265 | 8=>336 | 7=>335 | 19=>254 | 20=>356 | 10=>364 | 11=>365 | 12=>366 | 13=>367 | 14=>368 | 15=>369 | 16=>370 | 17=>371 | 18=>372 | 30=>387 | 31=>388 | 32=>389 | 33=>390 | 34=>391 | 35=>392 | 40=>398 | n=>n,fun | 23=>30 | 25=>3 | 3=>3 | 32=>101 | 22=>30 | 0=>0 | 44=>203 | 46=>97 | 4=>4 | 36=>428 | 35=>427 | 41=>266 | 5=>5 | 9=>9 | 53=>443 | 57=>447 | 63=>455 | 64=>456 | n=>n,fun | n=>n⟩
theorem Tryz.laysSort:Go.Proofs.SlLaysM.n5 Tryz.prog Tryz.laysSort_ren:={
 mixed:=by kernel_rfl
 f5:=⟨Tryz.f265.name,by decide,Tryz.func265.trans (congrArg some (by kernel_rfl))⟩
 f7:=⟨Tryz.f335.name,by decide,Tryz.func335.trans (congrArg some (by kernel_rfl))⟩
 f8:=Tryz.func336.trans (congrArg some (by kernel_rfl))
 f10:=⟨Tryz.f364.name,by decide,Tryz.func364.trans (congrArg some (by kernel_rfl))⟩
 f11:=⟨Tryz.f365.name,by decide,Tryz.func365.trans (congrArg some (by kernel_rfl))⟩
 f12:=⟨Tryz.f366.name,by decide,Tryz.func366.trans (congrArg some (by kernel_rfl))⟩
 f13:=⟨Tryz.f367.name,by decide,Tryz.func367.trans (congrArg some (by kernel_rfl))⟩
 f14:=⟨Tryz.f368.name,by decide,Tryz.func368.trans (congrArg some (by kernel_rfl))⟩
 f15:=⟨Tryz.f369.name,by decide,Tryz.func369.trans (congrArg some (by kernel_rfl))⟩
 f16:=⟨Tryz.f370.name,by decide,Tryz.func370.trans (congrArg some (by kernel_rfl))⟩
 f17:=⟨Tryz.f371.name,by decide,Tryz.func371.trans (congrArg some (by kernel_rfl))⟩
 f18:=⟨Tryz.f372.name,by decide,Tryz.func372.trans (congrArg some (by kernel_rfl))⟩
 f19:=Tryz.func254.trans (congrArg some (by kernel_rfl))
 f20:=Tryz.func356.trans (congrArg some (by kernel_rfl))
 f30:=⟨Tryz.f387.name,by decide,Tryz.func387.trans (congrArg some (by kernel_rfl))⟩
 f31:=Tryz.func388.trans (congrArg some (by kernel_rfl))
 f32:=Tryz.func389.trans (congrArg some (by kernel_rfl))
 f33:=⟨Tryz.f390.name,by decide,Tryz.func390.trans (congrArg some (by kernel_rfl))⟩
 f34:=⟨Tryz.f391.name,by decide,Tryz.func391.trans (congrArg some (by kernel_rfl))⟩
 f35:=⟨Tryz.f392.name,by decide,Tryz.func392.trans (congrArg some (by kernel_rfl))⟩
 f40:=⟨Tryz.f398.name,by decide,Tryz.func398.trans (congrArg some (by kernel_rfl))⟩
 t0:=Tryz.underlying0
 a0:=Tryz.isAgg0
 z0:=Tryz.sizeOf0
 v0:=Tryz.zeroValue0
 t3:=Tryz.underlying3
 a3:=Tryz.isAgg3
 z3:=Tryz.sizeOf3
 v3:=Tryz.zeroValue3
 t4:=Tryz.underlying4
 a4:=Tryz.isAgg4
 z4:=Tryz.sizeOf4
 v4:=Tryz.zeroValue4
 t5:=Tryz.underlying5
 a5:=Tryz.isAgg5
 z5:=Tryz.sizeOf5
 v5:=Tryz.zeroValue5
 t9:=Tryz.underlying9
 a9:=Tryz.isAgg9
 z9:=Tryz.sizeOf9
 v9:=Tryz.zeroValue9
 t22:=Tryz.underlying30
 a22:=Tryz.isAgg30
 z22:=Tryz.sizeOf30
 v22:=Tryz.zeroValue30
 t23:=Tryz.underlying30
 a23:=Tryz.isAgg30
 z23:=Tryz.sizeOf30
 v23:=Tryz.zeroValue30
 t25:=Tryz.underlying3
 a25:=Tryz.isAgg3
 z25:=Tryz.sizeOf3
 v25:=Tryz.zeroValue3
 t32:=Tryz.underlying101
 a32:=Tryz.isAgg101
 z32:=Tryz.sizeOf101
 v32:=Tryz.zeroValue101
 t35:=Tryz.underlying427
 a35:=Tryz.isAgg427
 z35:=Tryz.sizeOf427
 v35:=Tryz.zeroValue427
 t36:=Tryz.underlying428
 a36:=Tryz.isAgg428
 z36:=Tryz.sizeOf428
 v36:=Tryz.zeroValue428
 t41:=Tryz.underlying266
 a41:=Tryz.isAgg266
 z41:=Tryz.sizeOf266
 v41:=Tryz.zeroValue266
 t44:=Tryz.underlying203
 a44:=Tryz.isAgg203
 z44:=Tryz.sizeOf203
 v44:=Tryz.zeroValue203
 t46:=Tryz.underlying97
 a46:=Tryz.isAgg97
 z46:=Tryz.sizeOf97
 v46:=Tryz.zeroValue97
 t53:=Tryz.underlying443
 a53:=Tryz.isAgg443
 z53:=Tryz.sizeOf443
 v53:=Tryz.zeroValue443
 t57:=Tryz.underlying447
 a57:=Tryz.isAgg447
 z57:=Tryz.sizeOf447
 v57:=Tryz.zeroValue447
 t63:=Tryz.underlying455
 a63:=Tryz.isAgg455
 z63:=Tryz.sizeOf455
 v63:=Tryz.zeroValue455
 t64:=Tryz.underlying456
 a64:=Tryz.isAgg456
 z64:=Tryz.sizeOf456
 v64:=Tryz.zeroValue456 }
def srt (xs:List Int):List Int:=xs.mergeSort fun x y=>decide (x≤y)
theorem srt_length (xs:List Int):(srt xs).length=xs.length:=by simp [srt]
theorem sort_own (B:Nat) (v:Value) (xs:List Int) (w:World) (h:OwnI B w v xs) (hl:xs.length≤17592186044416) (hB:B≤w.heap.size) :
 Calls Tryz.prog 265 #[v] w fun e w'=>e=.returned (.tuple #[])∧OwnI B w' v (srt xs)∧Below B w w':=by
 rcases h.2 with ⟨rfl,hn⟩ | ⟨g,cap,cur,rfl,hb,hg,hn,hcm,hs,ht⟩
 ·obtain rfl:=List.length_eq_zero_iff.1 hn
  refine Calls.mono (AnyM.slices_Sort_int_none Tryz.laysSort none 0 w) ?_
  rintro e w' ⟨rfl,rfl⟩
  exact ⟨rfl,by simpa [srt] using h,Below.refl _ _⟩
 ·have hlen:xs.length<4611686018427387904:=by omega
  refine Calls.mono (AnyM.slices_Sort_int Tryz.laysSort g 0 cap xs w (holds_of_block_i hg (by simpa using ht)) (Array.getElem?_eq_some_iff.1 hg).1 hlen) ?_
  rintro e w' ⟨rfl,n,os,rfl⟩
  refine ⟨rfl,?_,(Below.refl _ _).grown (grownBy_sorted_i _) hB (fun j hj=>by cases hj; exact hb)⟩
  have:=ownsRow_sorted_i (n:=n) (os:=os) (ts:=srt xs) (srt_length xs) hb hg hn hcm hs
  unfold OwnI
  rw [srt_length]
  exact this
theorem sorted_any (Bs:Nat) (v:Value) (zs:List Int) (hlen:zs.length≤17592186044416) (w:World) (hBs:Bs<w.heap.size) (hc:w.cell? ⟨Bs,0,none⟩=some v) (hv:IntsAt w v zs) :
 Calls Tryz.prog 190 #[.func (.func 292) #[] #[.pointer (some ⟨Bs,0,none⟩)]] w (Ret1 (fun x w'=>OwnI w.heap.size w' x (srt zs)) w):=by
 have hA:=collect_any Bs v zs hlen w hBs hc hv
 go_enter Tryz.func190,Tryz.ntmps190
 go_wp2_with fail
 refine hA.mono ?_
 clear hA
 rintro e w1 ⟨x,rfl,hb,ho⟩
 have hs:=hb.size
 go_wp2_with fail
 refine (sort_own w.heap.size x zs _ ho hlen hs).mono ?_
 rintro e w2 ⟨rfl,ho2,hb2⟩
 replace ho2:=Hd ho2
 go_wp2
 go_ret
 exact ⟨_,rfl,hb.trans hb2,ho2.out⟩
end Go.Proofs.YtindfaehjoileaaGreatDoor
namespace Go.Proofs.YtindfaehjoileaaGreatDoor
open Go.RowKit
set_option maxRecDepth 100000
def invP (p:List Int) (x:Int):Int:=idxOf (fun y=>x==y) p
theorem index_any (v:Value) (xs:List Int) (x:Int) (w:World) (h:IntsAt w v xs) :
 Calls Tryz.prog 193 #[v,.int .i64 x] w fun e w'=>e=.returned (.int .i64 (invP xs x))∧w=w':=by
 have hlen:=h.len
 have hm:=h.len_le
 replace h:=Hd h
 go_enter Tryz.func193,Tryz.ntmps193
 go_wp2
 go_loop [8] (fun i=>∃ j:Nat,j≤xs.length∧i=.int .i64 j∧∀ t (ht:t<xs.length),t<j→(x==xs[t])=false) (fun i=>xs.length-(intOf i).toNat)
 case atStart=>exact ⟨0,by omega,rfl,fun t ht h=>by omega⟩
 case round =>
  obtain ⟨j,hj,rfl,hne⟩:=hrel
  by_cases hjl:j<xs.length
  ·have i1:=h.out.idx j hjl
   have c1:=h.out.cell j hjl
   by_cases he:(x==xs[j])=true
   ·have hr:Hid (invP xs x=j):=Hd (idxOf_at j hjl he (fun t ht htj=>hne t ht htj))
    have he':x=xs[j]:=by simpa using he
    rw [← he'] at c1
    clear he he'
    replace hne:=Hd hne
    go_wp2
    go_ret
    exact ⟨ret_int hr.out.symm,rfl⟩
   ·have hn:Hid (∀ t (ht:t<xs.length),t<j+1→(x==xs[t])=false):=Hd (fun t ht htj=>by
     by_cases e:t=j
     ·subst e; simpa using he
     ·exact hne t ht (by omega))
    have he':(x==xs[j])=false:=by simpa using he
    obtain ⟨y,hy⟩:∃ y,y=xs[j]:=⟨_,rfl⟩
    rw [← hy] at c1 he'
    clear he hne hy
    go_wp2
    go_round
    case rel=>exact ⟨j+1,by omega,by go_num,hn.out⟩
    case measure=>simp [intOf]; omega
  ·have hr:Hid (invP xs x=-1):=Hd (idxOf_neg (fun y hy=>by
    obtain ⟨t,ht,rfl⟩:=List.mem_iff_getElem.1 hy
    exact hne t ht (by omega)))
   replace hne:=Hd hne
   go_wp2
   go_ret
   exact ⟨ret_int hr.out.symm,rfl⟩
end Go.Proofs.YtindfaehjoileaaGreatDoor
namespace Go.Proofs.YtindfaehjoileaaGreatDoor
theorem invP_at {T:List Int} {j:Nat} (hj:j<T.length):∃ i:Nat,invP T (T.getD j 0)=i∧i≤j∧T.getD i 0=T.getD j 0:=by
 have ej:T.getD j 0=T[j]:=by simp [List.getD,hj]
 rw [ej]
 rcases idxOf_cases (fun y=>T[j]==y) T with ⟨_,hn⟩ | ⟨k,hk,hkl,hp,hm⟩
 ·have:=hn _ (List.getElem_mem hj); simp at this
 ·refine ⟨k,hk,?_,?_⟩
  ·apply Classical.byContradiction
   intro e
   have:=hm j hj (by omega)
   simp at this
  ·simp only [List.getD,List.getElem?_eq_getElem hkl,Option.getD_some]
   exact (show T[j]=T[k] by simpa using hp).symm
def SingleIs (T:List Int) (x y:Nat):Prop:=y<T.length∧invP T (T.getD y 0)=x∧x<y∧∀ i,i<y→(i:Int)≤invP T (T.getD i 0)
theorem SingleIs.unique {T:List Int} {x y u v:Nat} (h:SingleIs T x y) (k:SingleIs T u v):x=u∧y=v:=by
 obtain ⟨h1,h2,h3,h4⟩:=h
 obtain ⟨k1,k2,k3,k4⟩:=k
 have e:y=v:=by
  rcases Nat.lt_trichotomy y v with e | e | e
  ·have:=k4 y e; rw [h2] at this; omega
  ·exact e
  ·have:=h4 v e; rw [k2] at this; omega
 subst e
 rw [h2] at k2
 exact ⟨by omega,rfl⟩
theorem img0_get {K:Nat} {T a:List Int} {i:Nat} (hi:i<a.length):(imgP K 0 T a).getD i 0=T.getD (a.getD i 0).toNat 0:=by
 rw [imgP_getD K 0 T a i (by omega)]
 have e:(a.drop i).take (2*0+1)=[a.getD i 0]:=by
  rw [List.drop_eq_getElem_cons hi,show 2*0+1=0+1 from rfl,List.take_succ_cons,List.take_zero]
  simp [List.getD,hi]
 rw [e]
 simp [numW]
theorem SingleIs.twins {K:Nat} {T:List Int} {x y:Nat} (hK:T.length=K) (h:SingleIs T x y):IsTwins K 0 T [(x:Int)] [(y:Int)]:=by
 obtain ⟨h1,h2,h3,h4⟩:=h
 have sx:Syms K [(x:Int)]:=fun z hz=>by simp at hz; subst hz; omega
 have sy:Syms K [(y:Int)]:=fun z hz=>by simp at hz; subst hz; omega
 refine ⟨sx,sy,rfl,by simp; omega,by simp,by simp,by simp,?_⟩
 have he:T.getD x 0=T.getD y 0:=by
  obtain ⟨i,i1,i2,i3⟩:=invP_at h1
  rw [h2] at i1
  obtain rfl:x=i:=by omega
  exact i3
 refine List.ext_getElem (by rw [imgP_length,imgP_length]; rfl) fun i h1 h2=>?_
 rw [imgP_length] at h1
 have hi:i=0:=by simp at h1; omega
 subst hi
 have g1:=img0_get (K:=K) (T:=T) (a:=[(x:Int)]) (i:=0) (by simp)
 have g2:=img0_get (K:=K) (T:=T) (a:=[(y:Int)]) (i:=0) (by simp)
 simp [List.getD] at g1 g2 he
 have l1:0<(imgP K 0 T [(x:Int)]).length:=by rw [imgP_length]; simp
 have l2:0<(imgP K 0 T [(y:Int)]).length:=by rw [imgP_length]; simp
 simp [List.getElem?_eq_getElem l1] at g1
 simp [List.getElem?_eq_getElem l2] at g2
 rw [g1,g2]
 exact he
theorem twins_pos {K R:Nat} {T a b:List Int} (h:IsTwins K R T a b):1≤a.length:=by
 have hl:=h.len
 have hn:=h.ne
 rcases a with _ | ⟨x,a⟩
 ·cases b with
  | nil=>exact absurd rfl hn
  | cons _ _=>simp at hl
 ·simp
theorem no_single {K:Nat} {T:List Int} (hK:T.length=K) (h:∀ i,i<T.length→(i:Int)≤invP T (T.getD i 0)) (a b:List Int):¬ IsTwins K 0 T a b:=by
 intro t
 apply t.ne
 have hinj:∀ i j,i<T.length→j<T.length→T.getD i 0=T.getD j 0→i≤j:=fun i j hi hj e=>by
  obtain ⟨p,p1,p2,_⟩:=invP_at hj
  have:=h i hi
  rw [e,p1] at this
  omega
 refine List.ext_getElem t.len fun i h1 h2=>?_
 have e:=congrArg (fun l=>l.getD i 0) t.img
 simp only [img0_get h1,img0_get h2] at e
 simp only [List.getD,List.getElem?_eq_getElem h1,List.getElem?_eq_getElem h2,Option.getD_some] at e
 have s1:=t.sa _ (List.getElem_mem h1)
 have s2:=t.sb _ (List.getElem_mem h2)
 have l1:=hinj a[i].toNat b[i].toNat (by omega) (by omega) e
 have l2:=hinj b[i].toNat a[i].toNat (by omega) (by omega) e.symm
 omega
theorem IsTwins.long {K R:Nat} {T a b:List Int} (h:IsTwins K R T a b):4*R+1≤a.length:=by
 apply Classical.byContradiction
 intro hl
 apply h.ne
 have hlen:=h.len
 have hlow:=h.low
 refine List.ext_getElem? fun i=>?_
 by_cases hi:i<2*R
 ·have:=congrArg (·[i]?) h.front
  simpa [List.getElem?_take,hi] using this
 ·by_cases hi2:i<a.length
  ·have:=congrArg (·[i-(a.length-2*R)]?) h.back
   simp only [List.getElem?_drop] at this
   rw [show a.length-2*R+(i-(a.length-2*R))=i by omega,show b.length-2*R+(i-(a.length-2*R))=i by omega] at this
   exact this
  ·rw [List.getElem?_eq_none (by omega),List.getElem?_eq_none (by omega)]
def FinIs (K R:Nat) (T a b:List Int):Prop :=
 (R=0∧∃ x y,SingleIs T x y∧a=[(x:Int)]∧b=[(y:Int)]) ∨
 (R≠0∧∃ ws,MeetIs (pw K (2*R)) (pairL K (pw K (2*R)) T) ws∧a=alongW K (2*R) (·/pw K (2*R)) ws∧b=alongW K (2*R) (·%pw K (2*R)) ws)
theorem FinIs.unique {K R:Nat} {T a b c d:List Int} (h:FinIs K R T a b) (k:FinIs K R T c d):a=c∧b=d:=by
 rcases h with ⟨h0,x,y,h1,rfl,rfl⟩ | ⟨h0,ws,h1,rfl,rfl⟩<;>rcases k with ⟨k0,u,v,k1,rfl,rfl⟩ | ⟨k0,us,k1,rfl,rfl⟩
 ·obtain ⟨rfl,rfl⟩:=h1.unique k1; exact ⟨rfl,rfl⟩
 ·exact absurd h0 k0
 ·exact absurd k0 h0
 ·obtain rfl:=h1.unique k1; exact ⟨rfl,rfl⟩
open Go.RowKit
theorem IntsAt.piece {w:World} {a:Option Addr} {cap:Nat} {xs:List Int} (h:IntsAt w (.slice a xs.length cap) xs) (k l:Nat) (hk:k≤l) (hl:l≤xs.length) :
 IntsAt w (sliced a k l cap 1) ((xs.take l).drop k):=by
 obtain ⟨a',cap',e,h1,h2,h3,h4⟩:=h
 injection e with e1 _ e3
 subst e1 e3
 have hlen:((xs.take l).drop k).length=l-k:=by simp; omega
 refine ⟨if cap=k then a else a.map (·.add (k*1)),cap-k,by rw [hlen]; rfl,by rw [hlen]; omega,by omega,?_,fun i hi=>?_⟩
 ·intro hn
  by_cases hc:cap=k
  ·omega
  ·rw [if_neg hc] at hn
   have:=h3 (Option.map_eq_none_iff.1 hn)
   omega
 ·rw [hlen] at hi
  have hc:¬ cap=k:=by omega
  show w.cell? (valAt (.slice (if cap=k then a else a.map (·.add (k*1))) _ _) i)=_
  rw [if_neg hc]
  cases a with
  | none=>have:=h3 rfl; omega
  | some p =>
   have h5:=h4 (k+i) (by omega)
   simp only [valAt] at h5
   show w.cell? ((p.add (k*1)).add i)=_
   rw [Nat.mul_one,show (p.add k).add i=p.add (k+i) by unfold Addr.add; by_cases hk0:k=0<;>by_cases hi0:i=0<;>simp [hk0,hi0,Nat.add_assoc],h5]
   simp
theorem IntsAt.post {w:World} {v:Value} {xs:List Int} (h:IntsAt w v xs) (k:Nat) (hk:k≤xs.length) :
 ∃ u,(∀ w',(Instr.slice 30 v (some (.int .i64 k)) none none).run Tryz.prog w'=.ok u w')∧IntsAt w u (xs.drop k):=by
 have h':=h
 obtain ⟨a,cap,rfl,_⟩:=h'
 refine ⟨sliced a k xs.length cap 1,fun w'=>?_,?_⟩
 ·rw [run_slice_l w' 30 a xs.length cap uIntsE .i64 k (by omega) (by omega),eInts,sInt]
  rfl
 ·have:=h.piece k xs.length hk (Nat.le_refl _)
  rwa [List.take_length] at this
theorem IntsAt.mid {w:World} {v:Value} {xs:List Int} (h:IntsAt w v xs) (k l:Nat) (hk:k≤l) (hl:l≤xs.length) :
 ∃ u,(∀ w',(Instr.slice 30 v (some (.int .i64 k)) (some (.int .i64 l)) none).run Tryz.prog w'=.ok u w')∧IntsAt w u ((xs.take l).drop k):=by
 have h':=h
 obtain ⟨a,cap,rfl,h1,_⟩:=h'
 refine ⟨sliced a k l cap 1,fun w'=>?_,h.piece k l hk hl⟩
 rw [run_slice_lh w' 30 a xs.length cap uIntsE .i64 .i64 k l (by omega) (by omega) (by omega),eInts,sInt]
 rfl
theorem IntsAt.front {w:World} {v:Value} {xs:List Int} (h:IntsAt w v xs) (l:Nat) (hl:l≤xs.length) :
 ∃ u,(∀ w',(Instr.slice 30 v none (some (.int .i64 l)) none).run Tryz.prog w'=.ok u w')∧IntsAt w u (xs.take l):=by
 have h':=h
 obtain ⟨a,cap,rfl,h1,_⟩:=h'
 refine ⟨sliced a 0 l cap 1,fun w'=>?_,?_⟩
 ·rw [run_slice_h w' 30 a xs.length cap uIntsE .i64 l (by omega) (by omega),eInts,sInt]
  rfl
 ·have:=h.piece 0 l (Nat.zero_le _) hl
  simpa using this
set_option maxRecDepth 100000
set_option maxHeartbeats 8000000
theorem widened1_any (K R d:Nat) (va:Option Addr) (vn vc:Nat) (T:List Int) (p q:Nat) (v:Value) (ys:List Int) (w:World)
 (h:IntsAt w (.slice va vn vc) T) (hr:RuleOk K R T) (hv:IntsAt w v ys) (hy:Syms K ys) (hyl:ys.length=2*(R+d)+1)
 (hRd:R+d≤3)
 (x0:w.cell? ⟨p,0,none⟩=some (.int .i64 K)) (x1:w.cell? ⟨p,1,none⟩=some (.int .i64 R)) (x2:w.cell? ⟨p,2,none⟩=some (.slice va vn vc)) (x3:w.cell? ⟨q,0,none⟩=some (.int .i64 d)) :
 Calls Tryz.prog 286 #[v,.pointer (some ⟨p,0,none⟩),.pointer (some ⟨q,0,none⟩)] w (Ret1 (fun x _=>x=.int .i64 (T.getD (numW K ((ys.drop d).take (2*R+1))) 0)) w):=by
 have lv:=hv.len
 obtain ⟨u,hu,hiu⟩:=hv.mid d (ys.length-d) (by omega) (by omega)
 have eL:(ys.take (ys.length-d)).drop d=(ys.drop d).take (2*R+1):=by
  rw [List.drop_take]; congr 1; omega
 rw [eL] at hiu
 have hD:(ys.length:Int)-(d:Int)=((ys.length-d:Nat):Int):=by omega
 have hle:ys.length≤7:=by omega
 have hsy:Syms K ((ys.drop d).take (2*R+1)):=syms_take (syms_drop hy _) _
 have hsl:((ys.drop d).take (2*R+1)).length=2*R+1:=by simp; omega
 generalize hY:T.getD (numW K ((ys.drop d).take (2*R+1))) 0=Y
 generalize (ys.drop d).take (2*R+1)=zs at *
 obtain ⟨e,hee⟩:∃ e,ys.length-d=e:=⟨_,rfl⟩
 rw [hee] at hD hu
 have he7:e≤7:=by omega
 have hwe:IntKind.i64.wrap (e:Int)=e:=wrapK (by omega) (by omega)
 obtain ⟨L,hL⟩:∃ L,ys.length=L:=⟨_,rfl⟩
 rw [hL] at lv hD hle
 have hd3:d≤3:=by omega
 replace hY:=Hd hY
 replace h:=Hd h
 replace hv:=Hd hv
 replace hy:=Hd hy
 replace hsy:=Hd hsy
 replace hsl:=Hd hsl
 replace hyl:=Hd hyl
 replace hr:=Hd hr
 replace hiu:=Hd hiu
 replace hL:=Hd hL
 clear hee eL
 go_enter Tryz.func286,Tryz.ntmps286
 go_upto_region 1 with fail
 refine wp_region_plan (fun w'=>w'.cell? ⟨p,0,none⟩=some (.int .i64 K)∧w'.cell? ⟨p,1,none⟩=some (.int .i64 R)∧w'.cell? ⟨p,2,none⟩=some (.slice va vn vc)∧w'.cell? ⟨q,0,none⟩=some (.int .i64 d)) 9 [(0,true),(1,true),(2,true),(3,true),(4,true),(5,true),(6,true),(7,true),(8,false)] (by kernel_rfl) (by kernel_rfl) ?_
 have hS:w.drew.cell? ⟨p,0,none⟩=some (.int .i64 K)∧w.drew.cell? ⟨p,1,none⟩=some (.int .i64 R)∧w.drew.cell? ⟨p,2,none⟩=some (.slice va vn vc)∧w.drew.cell? ⟨q,0,none⟩=some (.int .i64 d):=⟨x0,x1,x2,x3⟩
 refine pqY 5 hS ?_
 refine pqY 6 hS ?_
 refine pqY 7 hS ?_
 refine pqY 8 hS ?_
 refine pqY 9 hS ?_
 refine pqY 10 hS ?_
 refine pqY 11 hS ?_
 refine pqY 12 hS ?_
 refine headC rfl (fun KK hK=>?_)
 go_simp
 refine (symbol_any K R va vn vc T u zs _ h.out.drew hr.out hiu.out.drew hsy.out hsl.out).mono ?_
 rintro e w1 ⟨x,rfl,b1,rfl⟩
 rw [hY.out]
 have hS1:w1.cell? ⟨p,0,none⟩=some (.int .i64 K)∧w1.cell? ⟨p,1,none⟩=some (.int .i64 R)∧w1.cell? ⟨p,2,none⟩=some (.slice va vn vc)∧w1.cell? ⟨q,0,none⟩=some (.int .i64 d):=⟨cell_keep b1 hS.1,cell_keep b1 hS.2.1,cell_keep b1 hS.2.2.1,cell_keep b1 hS.2.2.2⟩
 refine hK _ _ hS1 ?_
 clear hK KK
 refine head0 ?_
 simp only [List.drop_succ_cons,List.drop_zero]
 clear hS hS1
 go_wp2
 refine NoPanic.normal ?_
 go_wp2
 go_ret
 exact ⟨_,rfl,Below.step ((Below.refl _ _).drew) b1,rfl⟩
theorem eg_widened1 (args:Array Value) (w:World):(callFunc 286 args).run Tryz.prog w=.ok (.enter 286 args) w:=by kernel_rfl
theorem madeP_wide (K R d:Nat) (T:List Int):madeP K (2*(R+d)+1) (fun ys=>T.getD (numW K ((ys.drop d).take (2*R+1))) 0) (pw K (2*(R+d)+1))=wideT K R d T:=rfl
theorem widened_any (K R d:Nat) (va:Option Addr) (vn vc:Nat) (T:List Int) (w:World) (h:IntsAt w (.slice va vn vc) T) (hr:RuleOk K R T) (hRd:R+d≤3) (Ri:Int) (hRi:Ri=((R+d:Nat):Int)) :
 Calls Tryz.prog 183 #[.agg #[.int .i64 K,.int .i64 R,.slice va vn vc],.int .i64 Ri] w (Ret1 (fun x w'=>∃ a n c,x=.agg #[.int .i64 K,.int .i64 ((R+d:Nat):Int),.slice a n c]∧OwnI w.heap.size w' (.slice a n c) (wideT K R d T)) w):=by
 have b0:=Below.step (belowAlloc w (.cells #[.int .i64 K,.int .i64 R,.slice va vn vc] 124)) (belowAlloc _ (.cells #[.int .i64 0,.int .i64 0,.slice none 0 0] 124))
 have b3:=Below.step b0 (belowAlloc _ (.cells #[.int .i64 d] 3))
 have q1:Box3 (((w.alloc (.cells #[.int .i64 K,.int .i64 R,.slice va vn vc] 124)).alloc (.cells #[.int .i64 0,.int .i64 0,.slice none 0 0] 124)).alloc (.cells #[.int .i64 d] 3)) w.heap.size (.int .i64 K) (.int .i64 R) (.slice va vn vc):=by simp [Box3,go_sem]
 have q2:Box3 (((w.alloc (.cells #[.int .i64 K,.int .i64 R,.slice va vn vc] 124)).alloc (.cells #[.int .i64 0,.int .i64 0,.slice none 0 0] 124)).alloc (.cells #[.int .i64 d] 3)) (w.heap.size+1) (.int .i64 0) (.int .i64 0) (.slice none 0 0):=by simp [Box3,go_sem]
 have q3:(((w.alloc (.cells #[.int .i64 K,.int .i64 R,.slice va vn vc] 124)).alloc (.cells #[.int .i64 0,.int .i64 0,.slice none 0 0] 124)).alloc (.cells #[.int .i64 d] 3)).cell? ⟨w.heap.size+2,0,none⟩=some (.int .i64 d):=by simp [go_sem]
 have hk1:=hr.k1
 have hk4:=hr.k4
 have hR3:=hr.r3
 have hsub:Ri-(R:Int)=(d:Int):=by omega
 have hRi3:0≤Ri∧Ri≤3:=by omega
 have h3:=h.below b3
 obtain ⟨W3,hW3⟩:∃ W3:World,W3=((w.alloc (.cells #[.int .i64 K,.int .i64 R,.slice va vn vc] 124)).alloc (.cells #[.int .i64 0,.int .i64 0,.slice none 0 0] 124)).alloc (.cells #[.int .i64 d] 3):=⟨_,rfl⟩
 have s3:W3.heap.size=w.heap.size+3:=by rw [hW3]; simp
 rw [← hW3] at b3 q1 q2 q3 h3
 replace hRi:=Hd hRi
 replace hr:=Hd hr
 replace hW3:=Hd hW3
 replace s3:=Hd s3
 replace q2:=Hd q2
 replace h3:=Hd h3
 go_enter Tryz.func183,Tryz.ntmps183
 go_wp2_with fail
 rw [← hW3.out]
 refine (made_two K (R+d) _ (.pointer (some ⟨w.heap.size,0,none⟩)) (.pointer (some ⟨w.heap.size+2,0,none⟩)) (fun ys=>T.getD (numW K ((ys.drop d).take (2*R+1))) 0) W3 hk1 hk4 hRd Ri hRi.out eg_widened1 (fun v ys w' hB hv hy hyl=>by
  have q11:=q1.below hB
  exact widened1_any K R d va vn vc T _ _ v ys w' (h3.out.below hB) hr.out hv hy hyl hRd q11.1.1 q11.1.2.1 q11.1.2.2 (cell_keep hB q3))).mono ?_
 rintro e w4 ⟨x,rfl,b4,a,n,c,rfl,ho⟩
 rw [madeP_wide] at ho
 obtain ⟨⟨y0,y1,y2⟩,f0,f1,f2⟩:=q2.out.below b4
 replace ho:=Hd ho
 clear q1 q3
 go_wp2
 refine bodyPost_ret (v:=.agg #[.int .i64 K,.int .i64 ((R+d:Nat):Int),.slice a n c]) (by simp [results,Tryz.results183,go_sem,y0,y1,y2]) rfl ⟨_,rfl,below_set3 (Below.step b3 b4) (Nat.le_succ _) _ _ _,a,n,c,rfl,?_⟩
 have:=s3.out
 exact (((ho.out.setBelowBase (a:=⟨w.heap.size+1,0,none⟩) (by simp; omega) _).setBelowBase (a:=⟨w.heap.size+1,1,none⟩) (by simp; omega) _).setBelowBase (a:=⟨w.heap.size+1,2,none⟩) (by simp; omega) _).mono (by omega)
theorem fwiden_ok (r:Nat→Addr) (K R d:Nat) (va:Option Addr) (vn vc:Nat) (T:List Int) (w:World) (hg:Glob r w) (h:IntsAt w (.slice va vn vc) T) (hr:RuleOk K R T) (hRd:R+d≤3) (Ri:Int) (hRi:Ri=((R+d:Nat):Int)) :
 Calls Tryz.prog 334 #[.agg #[.int .i64 K,.int .i64 R,.slice va vn vc],.int .i64 Ri] w (Ret2 (fun x y w'=>y=.nilIface∧∃ a n c,x=.agg #[.int .i64 K,.int .i64 ((R+d:Nat):Int),.slice a n c]∧OwnI w.heap.size w' (.slice a n c) (wideT K R d T)) w):=by
 have b0:=Below.step (belowAlloc w (.cells #[.int .i64 K,.int .i64 R,.slice va vn vc] 124)) (belowAlloc _ (.cells #[.int .i64 0,.int .i64 0,.slice none 0 0] 124))
 have q2:Box3 ((w.alloc (.cells #[.int .i64 K,.int .i64 R,.slice va vn vc] 124)).alloc (.cells #[.int .i64 0,.int .i64 0,.slice none 0 0] 124)) (w.heap.size+1) (.int .i64 0) (.int .i64 0) (.slice none 0 0):=by simp [Box3,go_sem]
 have q1:Box3 ((w.alloc (.cells #[.int .i64 K,.int .i64 R,.slice va vn vc] 124)).alloc (.cells #[.int .i64 0,.int .i64 0,.slice none 0 0] 124)) w.heap.size (.int .i64 K) (.int .i64 R) (.slice va vn vc):=by simp [Box3,go_sem]
 have hk1:=hr.k1
 have hk4:=hr.k4
 have hR3:=hr.r3
 have hck:=Hd hr.check
 have h1:R≤Ri:=by omega
 have h2:Ri≤3:=by omega
 have h1d:decide (Ri<(R:Int))=false:=by simp; omega
 have h2d:decide ((3:Int)<Ri)=false:=by simp; omega
 replace hRi:=Hd hRi
 replace hg:=Hd (hg.below b0)
 replace h:=Hd (h.below b0)
 replace hr:=Hd hr
 replace q1:=Hd q1
 replace q2:=Hd q2
 go_enter Tryz.func334,Tryz.ntmps334
 go_wp2_with fail
 refine (forms_check r _ K R va vn vc T _ hg.out h.out).mono ?_
 rintro e w1 ⟨x,rfl,hb,he⟩
 rw [hck.out] at he
 obtain rfl:=ErrIs.none_eq he
 have q11:=q1.out.below hb
 obtain ⟨⟨z0,z1,z2⟩,-,-,-⟩:=q11
 have s1:=hb.size
 simp only [World.size_alloc] at s1
 replace s1:=Hd s1
 go_wp2_with fail
 refine (widened_any K R d va vn vc T w1 (h.out.below hb) hr.out hRd Ri hRi.out).mono ?_
 rintro e w2 ⟨x,rfl,b2,a,n,c,rfl,ho⟩
 obtain ⟨⟨y0,y1,y2⟩,f0,f1,f2⟩:=q2.out.below (Below.step hb b2)
 replace ho:=Hd ho
 clear z0 z1 z2
 go_wp2
 refine bodyPost_ret (v:=.tuple #[.agg #[.int .i64 K,.int .i64 ((R+d:Nat):Int),.slice a n c],.nilIface]) (by simp [results,Tryz.results334,go_sem,y0,y1,y2]) rfl ⟨_,_,rfl,below_set3 (Below.step b0 (Below.step hb b2)) (Nat.le_succ _) _ _ _,rfl,a,n,c,rfl,?_⟩
 have:=s1.out
 exact (((ho.out.setBelowBase (a:=⟨w.heap.size+1,0,none⟩) (by simp; omega) _).setBelowBase (a:=⟨w.heap.size+1,1,none⟩) (by simp; omega) _).setBelowBase (a:=⟨w.heap.size+1,2,none⟩) (by simp; omega) _).mono (by omega)
def wkR (R:Nat):Nat:=if R=0 then 1 else R
def wkT (K R:Nat) (T:List Int):List Int:=if R=0 then wideT K 0 1 T else T
theorem wk_ok {K R:Nat} {T:List Int} (h:RuleOk K R T):RuleOk K (wkR R) (wkT K R T):=by
 unfold wkR wkT
 by_cases e:R=0
 ·subst e; rw [if_pos rfl,if_pos rfl]; exact wideT_ok (d:=1) h (by decide)
 ·rw [if_neg e,if_neg e]; exact h
theorem wk_pos (R:Nat):1≤wkR R:=by unfold wkR; split<;>omega
theorem wk_small {K R:Nat} {T:List Int} (h:RuleOk K R T) (hl:T.length≤256):(wkT K R T).length≤256:=by
 unfold wkT
 by_cases e:R=0
 ·subst e; rw [if_pos rfl,wideT_length]
  have h4:=h.k4
  have:pw K 3≤pw 4 3:=Nat.pow_le_pow_left h4 3
  have e4:pw 4 3=64:=by decide
  have:pw K (2*(0+1)+1)=pw K 3:=rfl
  omega
 ·rw [if_neg e]; exact hl
theorem nodes_le {K R:Nat} {T:List Int} (h:RuleOk K R T) (hR:1≤R) (hl:T.length≤256):pw K (2*R)≤81:=by
 have h1:=h.k1
 have h4:=h.k4
 have h3:=h.r3
 rw [h.len] at hl
 have hK:K=1∨K=2∨K=3∨K=4:=by omega
 have hR':R=1∨R=2∨R=3:=by omega
 rcases hK with rfl | rfl | rfl | rfl<;>rcases hR' with rfl | rfl | rfl<;>revert hl<;>decide
theorem working_ok (r:Nat→Addr) (K R:Nat) (va:Option Addr) (vn vc:Nat) (T:List Int) (w:World) (hg:Glob r w) (h:IntsAt w (.slice va vn vc) T) (hr:RuleOk K R T) (hl:T.length≤256) :
 Calls Tryz.prog 263 #[.agg #[.int .i64 K,.int .i64 R,.slice va vn vc]] w (Ret2 (fun x y w'=>y=.nilIface∧∃ a n c,x=.agg #[.int .i64 K,.int .i64 (wkR R),.slice a n c]∧IntsAt w' (.slice a n c) (wkT K R T)) w):=by
 have b0:=Below.step (belowAlloc w (.cells #[.int .i64 K,.int .i64 R,.slice va vn vc] 124)) (belowAlloc _ (.cells #[.int .i64 0,.int .i64 0,.slice none 0 0] 124))
 have q2:Box3 ((w.alloc (.cells #[.int .i64 K,.int .i64 R,.slice va vn vc] 124)).alloc (.cells #[.int .i64 0,.int .i64 0,.slice none 0 0] 124)) (w.heap.size+1) (.int .i64 0) (.int .i64 0) (.slice none 0 0):=by simp [Box3,go_sem]
 have q1:Box3 ((w.alloc (.cells #[.int .i64 K,.int .i64 R,.slice va vn vc] 124)).alloc (.cells #[.int .i64 0,.int .i64 0,.slice none 0 0] 124)) w.heap.size (.int .i64 K) (.int .i64 R) (.slice va vn vc):=by simp [Box3,go_sem]
 have hs:=Hd (smallP_small hr hl)
 have h0:=Hd h
 have hs0:w.heap.size+1<((w.alloc (.cells #[.int .i64 K,.int .i64 R,.slice va vn vc] 124)).alloc (.cells #[.int .i64 0,.int .i64 0,.slice none 0 0] 124)).heap.size:=by simp
 replace hg:=Hd (hg.below b0)
 replace h:=Hd (h.below b0)
 replace hr:=Hd hr
 replace q1:=Hd q1
 replace q2:=Hd q2
 replace hs0:=Hd hs0
 by_cases hR:R=0
 ·have e1:wkR R=R+1:=by unfold wkR; rw [if_pos hR,hR]
  have e2:wkT K R T=wideT K R 1 T:=by unfold wkT; rw [if_pos hR,hR]
  have hRq:((R:Int)==0)=true:=by simp [hR]
  rw [e1,e2]
  replace hR:=Hd hR
  clear e1 e2
  go_enter Tryz.func263,Tryz.ntmps263
  go_wp2_with fail
  refine (small_any r K R va vn vc T _ hg.out h.out).mono ?_
  rintro e w1 ⟨x,rfl,b1,he⟩
  rw [hs.out] at he
  obtain rfl:=ErrIs.none_eq he
  have q11:=q1.out.below b1
  obtain ⟨⟨z0,z1,z2⟩,-,-,-⟩:=q11
  go_wp2_with fail
  refine (fwiden_ok r K R 1 va vn vc T w1 (hg.out.below b1) (h.out.below b1) hr.out (by have:=hR.out; omega) 1 (by have:=hR.out; simp [this])).mono ?_
  rintro e w2 ⟨x,y,rfl,b2,rfl,a,n,c,rfl,ho⟩
  obtain ⟨⟨y0,y1,y2⟩,f0,f1,f2⟩:=q2.out.below (Below.step b1 b2)
  replace ho:=Hd ho
  clear z0 z1 z2
  go_wp2
  refine bodyPost_ret (v:=.tuple #[.agg #[.int .i64 K,.int .i64 ((R+1:Nat):Int),.slice a n c],.nilIface]) (by simp [results,Tryz.results263,go_sem,y0,y1,y2]) rfl ⟨_,_,rfl,below_set3 (Below.step b0 (Below.step b1 b2)) (Nat.le_succ _) _ _ _,rfl,a,n,c,rfl,?_⟩
  have s1:=hs0.out
  have s2:=b1.size
  exact (((ho.out.setBelowBase (a:=⟨w.heap.size+1,0,none⟩) (Nat.lt_of_lt_of_le s1 s2) _).setBelowBase (a:=⟨w.heap.size+1,1,none⟩) (Nat.lt_of_lt_of_le s1 s2) _).setBelowBase (a:=⟨w.heap.size+1,2,none⟩) (Nat.lt_of_lt_of_le s1 s2) _).at
 ·have e1:wkR R=R:=by unfold wkR; rw [if_neg hR]
  have e2:wkT K R T=T:=by unfold wkT; rw [if_neg hR]
  have hRq:((R:Int)==0)=false:=by rw [beq_eq_false_iff_ne]; omega
  have hR':¬ (R:Int)=0:=by omega
  rw [e1,e2]
  clear e1 e2
  go_enter Tryz.func263,Tryz.ntmps263
  go_wp2_with fail
  refine (small_any r K R va vn vc T _ hg.out h.out).mono ?_
  rintro e w1 ⟨x,rfl,b1,he⟩
  rw [hs.out] at he
  obtain rfl:=ErrIs.none_eq he
  have q11:=q1.out.below b1
  obtain ⟨⟨z0,z1,z2⟩,-,-,-⟩:=q11
  obtain ⟨⟨y0,y1,y2⟩,f0,f1,f2⟩:=q2.out.below b1
  have b01:=Below.step b0 b1
  have hTW:=h0.out.below (below_set3 b01 (Nat.le_succ _) (.int .i64 K) (.int .i64 R) (.slice va vn vc))
  replace hTW:=Hd hTW
  go_wp2
  refine bodyPost_ret (v:=.tuple #[.agg #[.int .i64 K,.int .i64 R,.slice va vn vc],.nilIface]) (by simp [results,Tryz.results263,go_sem,y0,y1,y2]) rfl ⟨_,_,rfl,below_set3 b01 (Nat.le_succ _) _ _ _,rfl,va,vn,vc,rfl,hTW.out⟩
def SinglePost (w:World) (T:List Int) (x y:Value) (w':World):Prop :=
 (∃ a b,SingleIs T a b∧OwnI w.heap.size w' x [(a:Int)]∧OwnI w.heap.size w' y [(b:Int)]∧(x.ownBlock=none∨x.ownBlock≠y.ownBlock)) ∨
 (x=.slice none 0 0∧y=.slice none 0 0∧∀ i,i<T.length→(i:Int)≤invP T (T.getD i 0))
theorem single_any (k R:Int) (va:Option Addr) (vn vc:Nat) (T:List Int) (w:World) (h:IntsAt w (.slice va vn vc) T) :
 Calls Tryz.prog 162 #[.agg #[.int .i64 k,.int .i64 R,.slice va vn vc]] w (Ret2 (SinglePost w T) w):=by
 have b0:=belowAlloc w (.cells #[.int .i64 k,.int .i64 R,.slice va vn vc] 124)
 have q:Box3 (w.alloc (.cells #[.int .i64 k,.int .i64 R,.slice va vn vc] 124)) w.heap.size (.int .i64 k) (.int .i64 R) (.slice va vn vc):=by simp [Box3,go_sem]
 have hlen:=h.len
 have hm:=h.len_le
 replace h:=Hd (h.below b0)
 obtain ⟨⟨y0,y1,y2⟩,-,-,-⟩:=q
 go_enter Tryz.func162,Tryz.ntmps162
 go_wp2
 obtain ⟨W,hW⟩:∃ W:World,W=w.alloc (.cells #[.int .i64 k,.int .i64 R,.slice va vn vc] 124):=⟨_,rfl⟩
 rw [← hW] at y0 y1 y2 b0 h ⊢
 replace hW:=Hd hW
 go_loop [10] (fun jv=>∃ j:Nat,j≤T.length∧jv=.int .i64 j∧∀ i,i<j→(i:Int)≤invP T (T.getD i 0)) (fun jv=>T.length-(intOf jv).toNat)
 case atStart=>exact ⟨0,by omega,rfl,fun i hi=>absurd hi (Nat.not_lt_zero _)⟩
 case round =>
  obtain ⟨j,hj,rfl,hno0⟩:=hrel
  have hno:∀ i,i<j→(i:Int)≤invP T (T.getD i 0):=fun i hi=>by have:=hno0 i hi; omega
  clear hno0
  replace hno:=Hd hno
  by_cases hjl:j<T.length
  ·have i1:=fun w'=>h.out.idx j hjl w'
   have c1:=h.out.cellD j hjl
   obtain ⟨z,hz⟩:∃ z,T.getD j 0=z:=⟨_,rfl⟩
   rw [hz] at c1
   obtain ⟨p,hp1,hp2,hp3⟩:=invP_at hjl
   rw [hz] at hp1
   have hIx:=index_any (.slice va vn vc) T z W h.out
   rw [hp1] at hIx
   generalize valAt (.slice va vn vc) j=ja at *
   have hjl2:=Hd hjl
   replace hIx:=Hd hIx
   replace hz:=Hd hz
   replace hp1:=Hd hp1
   replace hp3:=Hd hp3
   by_cases hpj:p<j
   ·have hpd:decide (p<j)=true:=decide_eq_true hpj
    have hpd2:decide ((p:Int)<(j:Int))=true:=decide_eq_true (by omega)
    have hpj2:=Hd hpj
    go_wp2_with (go_at_call 193; refine hIx.out.mono ?_; rintro e w' ⟨rfl,rfl⟩)
    have bA:=belowAlloc W (.cells #[.int .i64 p] 3)
    have hoA:=OwnI.lit W.heap.size W (Nat.le_refl _) [(p:Int)] (by simp [maxLen]) #[.int .i64 (p:Int)] rfl 1 rfl
    have bB:=belowAlloc (W.alloc (.cells #[.int .i64 p] 3)) (.cells #[.int .i64 j] 3)
    have hoB:=OwnI.lit (W.alloc (.cells #[.int .i64 p] 3)).heap.size (W.alloc (.cells #[.int .i64 p] 3)) (Nat.le_refl _) [(j:Int)] (by simp [maxLen]) #[.int .i64 (j:Int)] rfl 1 rfl
    have hs:=b0.size
    go_ret2
    refine ⟨_,_,rfl,b0.trans ((bA.trans (bB.mono bA.size)).mono hs),.inl ⟨p,j,⟨hjl2.out,by rw [hz.out]; exact hp1.out,hpj2.out,hno.out⟩,(hoA.below bB).mono hs,(show OwnI W.heap.size _ (Value.slice (some ⟨W.heap.size+1,0,none⟩) 1 1) _ from (by simpa using hoB.mono bA.size)).mono hs,.inr ?_⟩⟩
    simp [Value.ownBlock]
   ·have hpe:p=j:=by omega
    subst hpe
    go_wp2_with (go_at_call 193; refine hIx.out.mono ?_; rintro e w' ⟨rfl,rfl⟩)
    have hj1:=hjl2.out
    go_round
    case measure=>simp [intOf]; omega
    case rel =>
     refine ⟨p+1,by omega,by go_num,fun i hi=>?_⟩
     by_cases e:i=p
     ·subst e; rw [hz.out,hp1.out]; omega
     ·exact hno.out i (by omega)
  ·obtain rfl:j=T.length:=by omega
   go_wp2
   go_ret2
   exact ⟨_,_,rfl,b0,.inr ⟨rfl,rfl,hno.out⟩⟩
end Go.Proofs.YtindfaehjoileaaGreatDoor
namespace Go.Proofs.YtindfaehjoileaaGreatDoor
open Go.RowKit
set_option maxRecDepth 100000
def tab (n:Nat) (f:Nat→Nat):List Int:=(List.range n).map fun (v:Nat)=>(f v:Int)
def tabI (n:Nat) (f:Nat→Int):List Int:=(List.range n).map f
theorem tab_len (n:Nat) (f:Nat→Nat):(tab n f).length=n:=by simp [tab]
theorem tabI_len (n:Nat) (f:Nat→Int):(tabI n f).length=n:=by simp [tabI]
theorem tabI_get (n:Nat) (f:Nat→Int) (v:Nat) (hv:v<n):(tabI n f).getD v 0=f v:=by simp [tabI,List.getD,hv]
theorem tab_get (n:Nat) (f:Nat→Nat) (v:Nat) (hv:v<n):(tab n f).getD v 0=(f v:Int):=by simp [tab,List.getD,hv]
theorem tabI_upd (n:Nat) (f:Nat→Int) (v:Nat) (a:Int):(tabI n f).set v a=tabI n (updN f v a):=by
 apply List.ext_getElem
 ·simp [tabI]
 ·intro i h1 h2
  simp only [tabI,List.getElem_set,List.getElem_map,List.getElem_range,updN]
  by_cases e:v=i
  ·rw [if_pos e,if_pos e.symm]
  ·rw [if_neg e,if_neg (fun q=>e q.symm)]
theorem tab_upd (n:Nat) (f:Nat→Nat) (v a:Nat):(tab n f).set v (a:Int)=tab n (updN f v a):=by
 have h:=tabI_upd n (fun x=>(f x:Int)) v a
 show (tabI n fun x=>(f x:Int)).set v (a:Int)=_
 rw [h]
 unfold tab tabI
 apply List.map_congr_left
 intro x _
 by_cases e:x=v
 ·subst e; rw [updN_same,updN_same]
 ·rw [updN_other _ _ _ e,updN_other _ _ _ e]
def flatF (calls:List Nat) (idx:Nat→Nat):List Value:=calls.reverse.flatMap fun (v:Nat)=>[.int .i64 (v:Int),.int .i64 (idx v:Int)]
def upI (l:List Nat):List Int:=l.reverse.map fun (v:Nat)=>(v:Int)
theorem upI_len (l:List Nat):(upI l).length=l.length:=by simp [upI]
theorem upI_cons (v:Nat) (l:List Nat):upI (v::l)=upI l++[(v:Int)]:=by simp [upI]
theorem flatF_cons (v:Nat) (l:List Nat) (idx:Nat→Nat):flatF (v::l) idx=flatF l idx++[.int .i64 (v:Int),.int .i64 (idx v:Int)]:=by simp [flatF]
theorem flatF_len (l:List Nat) (idx:Nat→Nat):(flatF l idx).length=l.length*2:=by
 induction l with
 | nil=>rfl
 | cons v l ih=>rw [flatF_cons,List.length_append,ih]; simp; omega
theorem flatF_congr {l:List Nat} {f g:Nat→Nat} (h:∀ v∈l,f v=g v):flatF l f=flatF l g:=by
 induction l with
 | nil=>rfl
 | cons v l ih=>rw [flatF_cons,flatF_cons,ih fun x hx=>h x (List.mem_cons_of_mem _ hx),h v List.mem_cons_self]
theorem Rows.shrink {B:Nat} {w:World} {f:Names} {i:Nat×Nat} {E:TypeId} {size m g cap:Nat} {xs:List Value} (h:Rows B w f) (hi:f i=some ⟨E,size,.slice (some ⟨g,0,none⟩) (m+1) cap,m+1,xs⟩) :
 Rows B w (upd f i (some ⟨E,size,.slice (some ⟨g,0,none⟩) m cap,m,xs.take (m*size)⟩)):=by
 refine h.grown hi ⟨rfl,rfl,rfl,Nat.le_refl _,fun _ _ _=>rfl⟩ ?_ (.inl rfl)
 have ho:w.ownsRow B E size (.slice (some ⟨g,0,none⟩) (m+1) cap) (m+1) xs:=h.1 i _ hi
 have hl:=ho.1
 have hms:m*size≤(m+1)*size:=Nat.mul_le_mul_right _ (by omega)
 rcases ho.2 with ⟨e,_⟩ | ⟨g',cap',cur,e,hB,hg,hn,hm,hs,ht⟩
 ·cases e
 ·injection e with e1 e2 e3
  injection e1 with e1
  injection e1 with e1
  subst e1; subst e3
  refine ⟨by show (xs.take (m*size)).length=m*size; rw [List.length_take,hl]; omega,.inr ⟨g,cap,cur,rfl,hB,hg,by show m≤cap; omega,hm,hs,?_⟩⟩
  show cur.toList.take (m*size)=xs.take (m*size)
  rw [← ht,List.take_take,Nat.min_eq_left hms]
theorem run_appF (w:World) (B:Nat) (ty:TypeId) (v:Value) (m:Nat) (xs:List Value) (hown:w.ownsRow B 451 2 v m xs)
 (b:Nat) (y0 y1:Int) (hys:∀ (j:Nat) (u:Value),([Value.int .i64 y0,.int .i64 y1]:List Value)[j]?=some u→w.cell? ((⟨b,0,none⟩:Addr).add j)=some u) (hlen:m<1000000) (hB:B≤w.heap.size) :
 ∃ g n' c' w',(Builtin.append_ #[433,433] ty #[v,.slice (some ⟨b,0,none⟩) 1 1]).run Tryz.prog w=.ok (.slice (some ⟨g,0,none⟩) n' c') w'∧n'=m+1∧w'.ownsRow B 451 2 (.slice (some ⟨g,0,none⟩) (m+1) c') (m+1) (xs++[.int .i64 y0,.int .i64 y1]) ∧
  ((v.ownBlock=some g∧w.grownBy w' v.ownBlock)∨(g=w.heap.size∧w.grownBy w' none)):=by
 have ht:Tryz.prog.underlying 433=some (.slice 451):=by kernel_rfl
 obtain ⟨i,hi,hz0,hz1,hz2⟩:∃ i,Tryz.prog.info? 451=some i∧i.zero=some (.agg #[.int .i64 0,.int .i64 0])∧i.size=2∧i.bytes=16:=by
  have:(Tryz.prog.info? 451).map (fun i=>(i.zero,i.size,i.bytes))=some (some (.agg #[.int .i64 0,.int .i64 0]),2,16):=by kernel_rfl
  cases h:Tryz.prog.info? 451 with
  | none=>rw [h] at this; cases this
  | some i=>rw [h] at this; simp at this; exact ⟨i,rfl,this.1,this.2.1,this.2.2⟩
 have hzc:(Value.agg #[.int .i64 0,.int .i64 0]).cells=#[.int .i64 0,.int .i64 0]:=by rfl
 have hxl:=hown.1
 have big:∀ (old:Nat),old<m+1 →
  (w.drew.alloc (.cells (xs.toArray++[Value.int .i64 y0,.int .i64 y1].toArray++Builtin.zeroCells (Value.agg #[.int .i64 0,.int .i64 0]).cells (grownCap w (m+1) old 451-(m+1))) 451)).ownsRow B 451 2 (.slice (some ⟨w.heap.size,0,none⟩) (m+1) (grownCap w (m+1) old 451)) (m+1) (xs++[.int .i64 y0,.int .i64 y1]):=by
  intro old ho
  have hge:=grownCap_ge w (m+1) old 451
  have hcm:grownCap w (m+1) old 451≤maxLen:=grownCap_le_maxLen w _ old 451 (by unfold maxLen; omega)
  refine ⟨by simp [hxl]; omega,.inr ⟨w.heap.size,_,_,rfl,hB,heap_alloc_new w.drew _,hge,hcm,?_,?_⟩⟩
  ·simp only [Array.size_append,List.size_toArray,size_zeroCells,hzc,hxl]
   simp
   omega
  ·simp only [Array.toList_append]
   exact List.take_left' (by simp [hxl]; omega)
 have grw:∀ (oo:Obj),w.grownBy (w.drew.alloc oo) none:=fun oo=>⟨rfl,rfl,rfl,by simp,fun k hk _=>Below.heap_alloc w.drew oo k hk⟩
 rcases hown.2 with ⟨rfl,hn⟩ | ⟨g,cap,cur,rfl,hbg,hg,hnc,hcm,hcs,htake⟩
 ·subst hn
  obtain rfl:=List.length_eq_zero_iff.1 (show xs.length=0 by omega)
  have hr:=run_append_nil (P:=Tryz.prog) w 433 ty 451 i _ ht hi hz0 ⟨b,0,none⟩ 1 1 [.int .i64 y0,.int .i64 y1] (by rw [hz1]; rfl) hys (by omega) (by omega) (by rw [hz2]; decide)
  have hbg:=big 0 (by omega)
  simp only [List.nil_append,Array.empty_append,Nat.zero_add] at hbg hr
  exact ⟨_,_,_,_,hr,rfl,by simpa using hbg,.inr ⟨rfl,grw _⟩⟩
 ·by_cases hroom:m+1≤cap
  ·have hr:=run_append_room (P:=Tryz.prog) w 433 ty 451 i ht hi g m cap cur hg ⟨b,0,none⟩ 1 1 [.int .i64 y0,.int .i64 y1] (by rw [hz1]; rfl) hys (by simp [Value.oneCell']) hroom (by rw [hz1,hcs]; simp; omega)
   refine ⟨_,_,_,_,hr,rfl,⟨by simp [hxl]; omega,.inr ⟨g,cap,_,rfl,hbg,setRow_heap w g cur _ 451 _ hg,hroom,hcm,?_,?_⟩⟩,.inl ⟨rfl,⟨rfl,rfl,rfl,by simp,fun k _ hk=>setRow_other w g k _ (fun e=>hk (by simp [Value.ownBlock,e]))⟩⟩⟩
   ·simp only [List.size_toArray,List.length_append,List.length_take,List.length_drop,Array.length_toList,hz1,hcs]
    simp
    omega
   ·rw [hz1,htake]
    exact List.take_left' (by simp [hxl]; omega)
  ·have holds:∀ j u,xs[j]?=some u→w.cell? ((⟨g,0,none⟩:Addr).add j)=some u:=World.ownsRow.cells hown (g:=g) rfl
   have hr:=run_append_grow (P:=Tryz.prog) w 433 ty 451 i _ ht hi hz0 ⟨g,0,none⟩ m cap xs (by rw [hz1]; exact hxl) holds ⟨b,0,none⟩ 1 1 [.int .i64 y0,.int .i64 y1] (by rw [hz1]; rfl) hys (by omega) (by omega) (by
    rw [hz2]
    exact growslice_fits (by omega) (by
     calc (m+1)*16≤1000000*16:=Nat.mul_le_mul_right _ hlen
      _≤_:=by decide))
   exact ⟨_,_,_,_,hr,rfl,big cap (by omega),.inr ⟨rfl,grw _⟩⟩
theorem wpl_appF {w:World} {ops:Array Oper} {rest:List Oper} {o:Oper} {a:Act} {Q:Exit→Act→World→Prop} (hgd:o.guard=none) (s x:Operand)
 (ho:o.op=.call { callee:=.builtin .append,args:=#[s,x],argTypes:=#[433,433] })
 (B:Nat) (v:Value) (m:Nat) (xs:List Value) (y0 y1:Int) (b:Nat) (hown:w.ownsRow B 451 2 v m xs) (hs:a.eval s=v) (hx:a.eval x=.slice (some ⟨b,0,none⟩) 1 1) (hb:b=w.heap.size)
 (hlen:m<1000000) (hB:B≤w.heap.size)
 (h:∀ g c w',w'.ownsRow B 451 2 (.slice (some ⟨g,0,none⟩) (m+1) c) (m+1) (xs++[.int .i64 y0,.int .i64 y1])→((v.ownBlock=some g∧w.grownBy w' v.ownBlock)∨(w.heap.size≤g∧w.grownBy w' none))→wpList Tryz.prog ops Q rest (a.put o.dst (.slice (some ⟨g,0,none⟩) (m+1) c)) w') :
 wpList Tryz.prog ops Q (o::rest) a (w.alloc (.cells #[.int .i64 y0,.int .i64 y1] 451)):=by
 subst hb
 refine wpList_plain hgd fun K hK=>?_
 have hcells:∀ (j:Nat) (u:Value),([Value.int .i64 y0,.int .i64 y1]:List Value)[j]?=some u→(w.alloc (.cells #[.int .i64 y0,.int .i64 y1] 451)).cell? ((⟨w.heap.size,0,none⟩:Addr).add j)=some u:=by
  intro j u hj
  have hn:=heap_alloc_new w (.cells #[.int .i64 y0,.int .i64 y1] 451)
  match j,hj with
  | 0,hj=>simp at hj; subst hj; simp only [World.cell?,Addr.add,if_true]; rw [hn]; rfl
  | 1,hj=>simp at hj; subst hj; simp only [World.cell?,Addr.add,show ¬ (1=0) by decide,if_false]; rw [hn]; rfl
  | j+2,hj=>simp at hj
 obtain ⟨g,n',c',w',hr,rfl,h2,h3⟩:=run_appF (w.alloc (.cells #[.int .i64 y0,.int .i64 y1] 451)) B o.type v m xs (World.ownsRow.alloc hown _) w.heap.size y0 y1 hcells hlen (by simp; omega)
 unfold Oper.wp execOp
 simp only [ho,resolve,invoke,builtin,Sem.run_bind,Sem.run_pure,Result.andThen_ok,List.map_toArray,List.map_cons,List.map_nil,hs,hx]
 rw [hr]
 have hal:∀ row,w.grownBy (w.alloc (.cells #[.int .i64 y0,.int .i64 y1] 451)) row:=fun row=>World.grownBy_alloc w _ row
 rcases h3 with ⟨hv,hg⟩ | ⟨hk,hg⟩
 ·exact hK _ _ (h g c' w' h2 (.inl ⟨hv,(hal v.ownBlock).trans hg⟩))
 ·exact hK _ _ (h g c' w' h2 (.inr ⟨by rw [hk]; simp,(hal none).trans hg⟩))
structure SN (f:Names) (d:Nat) (nv lv fv pv ov cv:Value) (n:Nat) (S:TS):Prop where
 box:f (0,0)=some ⟨435,7,.slice (some ⟨d,0,none⟩) 1 1,1,[nv,lv,fv,ov,pv,cv,.int .i64 S.time]⟩
 low:f (1,0)=some (rowI lv (tab n S.low))
 fnd:f (2,0)=some (rowI fv (tab n S.found))
 opn:f (3,0)=some (rowI ov (upI S.opn))
 part:f (4,0)=some (rowI pv (tabI n S.part))
 calls:f (5,0)=some ⟨451,2,cv,S.calls.length,flatF S.calls S.idx⟩
section
variable {B:Nat} {w:World} {f:Names} {d:Nat} {nv lv fv pv ov cv:Value} {n:Nat} {S:TS}
theorem SN.cell (h:SN f d nv lv fv pv ov cv n S) (hr:Rows B w f) (k:Nat) (hk:k<7):w.cell? ⟨d,k,none⟩=[nv,lv,fv,ov,pv,cv,.int .i64 S.time][k]? :=
 hr.cell h.box (g:=d) (cap:=1) rfl k (by simp; omega)
theorem SN.frz (h:SN f d nv lv fv pv ov cv n S) (hr:Rows B w f) (k:Nat):w.frozen? ⟨d,k,none⟩=false:=hr.frozen h.box (g:=d) (cap:=1) rfl k
theorem SN.base (h:SN f d nv lv fv pv ov cv n S) (hr:Rows B w f):B≤d:=(hr.lt h.box d rfl).1
theorem SN.setTime (h:SN f d nv lv fv pv ov cv n S) (hr:Rows B w f) (t:Nat):∃ f',Rows B (w.setCell ⟨d,6,none⟩ (.int .i64 t)) f'∧SN f' d nv lv fv pv ov cv n { S with time:=t }:=by
 refine ⟨_,hr.set h.box (g:=d) (cap:=1) rfl 6 (.int .i64 t),⟨upd_same _ _ _,?_,?_,?_,?_,?_⟩⟩
 ·rw [upd_ne _ _ (by simp)]; exact h.low
 ·rw [upd_ne _ _ (by simp)]; exact h.fnd
 ·rw [upd_ne _ _ (by simp)]; exact h.opn
 ·rw [upd_ne _ _ (by simp)]; exact h.part
 ·rw [upd_ne _ _ (by simp)]; exact h.calls
theorem SN.setLow (h:SN f d nv lv fv pv ov cv n S) (hr:Rows B w f) (v:Nat) (hv:v<n) (t:Nat):∃ f',Rows B (w.setCell (valAt lv v) (.int .i64 t)) f'∧SN f' d nv lv fv pv ov cv n { S with low:=updN S.low v t }:=by
 have hs:=hr.setI h.low v (by rw [tab_len]; exact hv) (t:Int)
 rw [tab_upd] at hs
 refine ⟨_,hs,⟨?_,upd_same _ _ _,?_,?_,?_,?_⟩⟩
 ·rw [upd_ne _ _ (by simp)]; exact h.box
 ·rw [upd_ne _ _ (by simp)]; exact h.fnd
 ·rw [upd_ne _ _ (by simp)]; exact h.opn
 ·rw [upd_ne _ _ (by simp)]; exact h.part
 ·rw [upd_ne _ _ (by simp)]; exact h.calls
theorem SN.setFound (h:SN f d nv lv fv pv ov cv n S) (hr:Rows B w f) (v:Nat) (hv:v<n) (t:Nat):∃ f',Rows B (w.setCell (valAt fv v) (.int .i64 t)) f'∧SN f' d nv lv fv pv ov cv n { S with found:=updN S.found v t }:=by
 have hs:=hr.setI h.fnd v (by rw [tab_len]; exact hv) (t:Int)
 rw [tab_upd] at hs
 refine ⟨_,hs,⟨?_,?_,upd_same _ _ _,?_,?_,?_⟩⟩
 ·rw [upd_ne _ _ (by simp)]; exact h.box
 ·rw [upd_ne _ _ (by simp)]; exact h.low
 ·rw [upd_ne _ _ (by simp)]; exact h.opn
 ·rw [upd_ne _ _ (by simp)]; exact h.part
 ·rw [upd_ne _ _ (by simp)]; exact h.calls
theorem SN.setPart (h:SN f d nv lv fv pv ov cv n S) (hr:Rows B w f) (v:Nat) (hv:v<n) (t:Int):∃ f',Rows B (w.setCell (valAt pv v) (.int .i64 t)) f'∧SN f' d nv lv fv pv ov cv n { S with part:=updN S.part v t }:=by
 have hs:=hr.setI h.part v (by rw [tabI_len]; exact hv) t
 rw [tabI_upd] at hs
 refine ⟨_,hs,⟨?_,?_,?_,?_,upd_same _ _ _,?_⟩⟩
 ·rw [upd_ne _ _ (by simp)]; exact h.box
 ·rw [upd_ne _ _ (by simp)]; exact h.low
 ·rw [upd_ne _ _ (by simp)]; exact h.fnd
 ·rw [upd_ne _ _ (by simp)]; exact h.opn
 ·rw [upd_ne _ _ (by simp)]; exact h.calls
theorem grown_via {w':World} {row:Option Nat} (hg:w.grownBy w' row∨w.grownBy w' none):w.grownBy w' row:=by
 rcases hg with h | h
 ·exact h
 ·exact ⟨h.os,h.tape,h.output,h.size,fun k hk _=>h.block k hk (by simp)⟩
theorem SN.pushOpen (h:SN f d nv lv fv pv ov cv n S) (hr:Rows B w f) (hBw:B≤w.heap.size) {w1:World} {ov':Value} (v:Nat) (ho:OwnI B w1 ov' (upI S.opn++[(v:Int)]))
 (hal:(roomOf ov'=roomOf ov∧w.grownBy w1 ov.ownBlock)∨(∃ k,ov'.ownBlock=some k∧w.heap.size≤k∧w.grownBy w1 none)) :
 (∀ k,k<7→w1.cell? ⟨d,k,none⟩=[nv,lv,fv,ov,pv,cv,.int .i64 S.time][k]?)∧(∀ k,w1.frozen? ⟨d,k,none⟩=false)∧Below B w (w1.setCell ⟨d,3,none⟩ ov')∧∃ f',Rows B (w1.setCell ⟨d,3,none⟩ ov') f'∧SN f' d nv lv fv pv ov' cv n { S with opn:=v::S.opn }:=by
 have hO:=hr.ownI h.opn
 have hg:w.grownBy w1 ov.ownBlock:=grown_via (hal.imp (·.2) (fun ⟨_,_,_,q⟩=>q))
 have hob:ov'.ownBlock=ov.ownBlock∨∃ k,ov'.ownBlock=some k∧w.heap.size≤k:=by
  rcases hal with ⟨q,_⟩ | ⟨k,h1,h2,_⟩
  ·obtain ⟨a1,n1,c1,e1⟩:=hO.at.shape
   obtain ⟨a2,n2,c2,e2⟩:=ho.at.shape
   exact .inl (ownBlock_of_room e1 e2 q)
  ·exact .inr ⟨k,h1,h2⟩
 have h1:=hr.grown (r':=rowI ov' (upI S.opn++[(v:Int)])) h.opn hg ho hob
 have hb:upd f (3,0) (some (rowI ov' (upI S.opn++[(v:Int)]))) (0,0)=some ⟨435,7,.slice (some ⟨d,0,none⟩) 1 1,1,[nv,lv,fv,ov,pv,cv,.int .i64 S.time]⟩:=by rw [upd_ne _ _ (by simp)]; exact h.box
 refine ⟨fun k hk=>h1.cell hb (g:=d) (cap:=1) rfl k (by simpa using hk),fun k=>h1.frozen hb (g:=d) (cap:=1) rfl k,((Below.refl _ _).grown hg hBw (fun k hk=>(hO.lt k hk).1)).setCell (h.base hr) _,_,h1.set hb (g:=d) (cap:=1) rfl 3 ov',⟨upd_same _ _ _,?_,?_,?_,?_,?_⟩⟩
 ·rw [upd_ne _ _ (by simp),upd_ne _ _ (by simp)]; exact h.low
 ·rw [upd_ne _ _ (by simp),upd_ne _ _ (by simp)]; exact h.fnd
 ·rw [upd_ne _ _ (by simp),upd_same,upI_cons]
 ·rw [upd_ne _ _ (by simp),upd_ne _ _ (by simp)]; exact h.part
 ·rw [upd_ne _ _ (by simp),upd_ne _ _ (by simp)]; exact h.calls
theorem SN.pushCalls (h:SN f d nv lv fv pv ov cv n S) (hr:Rows B w f) (hBw:B≤w.heap.size) {w1:World} {g c:Nat} (v:Nat) (hv:v∉S.calls)
 (ho:w1.ownsRow B 451 2 (.slice (some ⟨g,0,none⟩) (S.calls.length+1) c) (S.calls.length+1) (flatF S.calls S.idx++[.int .i64 (v:Int),.int .i64 0]))
 (hal:(cv.ownBlock=some g∧w.grownBy w1 cv.ownBlock)∨(w.heap.size≤g∧w.grownBy w1 none)) :
 (∀ k,k<7→w1.cell? ⟨d,k,none⟩=[nv,lv,fv,ov,pv,cv,.int .i64 S.time][k]?)∧(∀ k,w1.frozen? ⟨d,k,none⟩=false)∧Below B w (w1.setCell ⟨d,5,none⟩ (.slice (some ⟨g,0,none⟩) (S.calls.length+1) c)) ∧
   ∃ f',Rows B (w1.setCell ⟨d,5,none⟩ (.slice (some ⟨g,0,none⟩) (S.calls.length+1) c)) f'∧SN f' d nv lv fv pv ov (.slice (some ⟨g,0,none⟩) (S.calls.length+1) c) n { S with calls:=v::S.calls,idx:=updN S.idx v 0 }:=by
 have hg:w.grownBy w1 cv.ownBlock:=grown_via (hal.imp (·.2) (·.2))
 have hob:(Value.slice (some ⟨g,0,none⟩) (S.calls.length+1) c).ownBlock=cv.ownBlock∨∃ k,(Value.slice (some ⟨g,0,none⟩) (S.calls.length+1) c).ownBlock=some k∧w.heap.size≤k:=by
  rcases hal with ⟨q,_⟩ | ⟨q,_⟩
  ·exact .inl q.symm
  ·exact .inr ⟨g,rfl,q⟩
 have h1:=hr.grown (r':=⟨451,2,.slice (some ⟨g,0,none⟩) (S.calls.length+1) c,S.calls.length+1,flatF S.calls S.idx++[Value.int .i64 (v:Int),Value.int .i64 0]⟩) h.calls hg (show Row.own B w1 ⟨_,_,_,_,_⟩ from ho) hob
 have hb:upd f (5,0) (some ⟨451,2,.slice (some ⟨g,0,none⟩) (S.calls.length+1) c,S.calls.length+1,flatF S.calls S.idx++[Value.int .i64 (v:Int),Value.int .i64 0]⟩) (0,0)=some ⟨435,7,.slice (some ⟨d,0,none⟩) 1 1,1,[nv,lv,fv,ov,pv,cv,.int .i64 S.time]⟩:=by rw [upd_ne _ _ (by simp)]; exact h.box
 refine ⟨fun k hk=>h1.cell hb (g:=d) (cap:=1) rfl k (by simpa using hk),fun k=>h1.frozen hb (g:=d) (cap:=1) rfl k,((Below.refl _ _).grown hg hBw (fun k hk=>(hr.lt h.calls k hk).1)).setCell (h.base hr) _,_,h1.set hb (g:=d) (cap:=1) rfl 5 (.slice (some ⟨g,0,none⟩) (S.calls.length+1) c),⟨upd_same _ _ _,?_,?_,?_,?_,?_⟩⟩
 ·rw [upd_ne _ _ (by simp),upd_ne _ _ (by simp)]; exact h.low
 ·rw [upd_ne _ _ (by simp),upd_ne _ _ (by simp)]; exact h.fnd
 ·rw [upd_ne _ _ (by simp),upd_ne _ _ (by simp)]; exact h.opn
 ·rw [upd_ne _ _ (by simp),upd_ne _ _ (by simp)]; exact h.part
 ·rw [upd_ne _ _ (by simp),upd_same]
  simp only [flatF_cons,updN_same,List.length_cons]
  rw [flatF_congr (f:=updN S.idx v 0) (g:=S.idx) (fun x hx=>updN_other _ _ _ (fun e=>hv (by rw [← e]; exact hx)))]
  rfl
theorem SN.popOpen {v:Nat} {r:List Nat} {g c:Nat} (h:SN f d nv lv fv pv (.slice (some ⟨g,0,none⟩) (r.length+1) c) cv n S) (he:S.opn=v::r) (hr:Rows B w f) :
 ∃ f',Rows B (w.setCell ⟨d,3,none⟩ (.slice (some ⟨g,0,none⟩) r.length c)) f'∧SN f' d nv lv fv pv (.slice (some ⟨g,0,none⟩) r.length c) cv n { S with opn:=r }:=by
 have ho:=h.opn
 rw [he] at ho
 have ho':f (3,0)=some ⟨3,1,.slice (some ⟨g,0,none⟩) (r.length+1) c,r.length+1,(upI (v::r)).map (Value.int .i64)⟩:=by
  rw [ho]; simp [rowI,upI_len]
 have h1:=hr.shrink ho'
 have hx:((upI (v::r)).map (Value.int .i64)).take (r.length*1)=(upI r).map (Value.int .i64):=by
  rw [upI_cons,List.map_append,Nat.mul_one]; exact List.take_left' (by simp [upI_len])
 rw [hx] at h1
 refine ⟨_,h1.set (i:=(0,0)) (by rw [upd_ne _ _ (by simp)]; exact h.box) (g:=d) (cap:=1) rfl 3 (.slice (some ⟨g,0,none⟩) r.length c),⟨upd_same _ _ _,?_,?_,?_,?_,?_⟩⟩
 ·rw [upd_ne _ _ (by simp),upd_ne _ _ (by simp)]; exact h.low
 ·rw [upd_ne _ _ (by simp),upd_ne _ _ (by simp)]; exact h.fnd
 ·rw [upd_ne _ _ (by simp),upd_same]; simp [upI_len]
 ·rw [upd_ne _ _ (by simp),upd_ne _ _ (by simp)]; exact h.part
 ·rw [upd_ne _ _ (by simp),upd_ne _ _ (by simp)]; exact h.calls
theorem SN.popCalls {v:Nat} {r:List Nat} {g c:Nat} (h:SN f d nv lv fv pv ov (.slice (some ⟨g,0,none⟩) (r.length+1) c) n S) (he:S.calls=v::r) (hr:Rows B w f) :
 ∃ f',Rows B (w.setCell ⟨d,5,none⟩ (.slice (some ⟨g,0,none⟩) r.length c)) f'∧SN f' d nv lv fv pv ov (.slice (some ⟨g,0,none⟩) r.length c) n { S with calls:=r }:=by
 have ho:=h.calls
 rw [he] at ho
 have h1:=hr.shrink ho
 have hx:(flatF (v::r) S.idx).take (r.length*2)=flatF r S.idx:=by
  rw [flatF_cons]; exact List.take_left' (flatF_len _ _)
 rw [hx] at h1
 refine ⟨_,h1.set (i:=(0,0)) (by rw [upd_ne _ _ (by simp)]; exact h.box) (g:=d) (cap:=1) rfl 5 (.slice (some ⟨g,0,none⟩) r.length c),⟨upd_same _ _ _,?_,?_,?_,?_,?_⟩⟩
 ·rw [upd_ne _ _ (by simp),upd_ne _ _ (by simp)]; exact h.low
 ·rw [upd_ne _ _ (by simp),upd_ne _ _ (by simp)]; exact h.fnd
 ·rw [upd_ne _ _ (by simp),upd_ne _ _ (by simp)]; exact h.opn
 ·rw [upd_ne _ _ (by simp),upd_ne _ _ (by simp)]; exact h.part
 ·rw [upd_ne _ _ (by simp),upd_same]
theorem SN.bump {v:Nat} {r:List Nat} {g c:Nat} (h:SN f d nv lv fv pv ov (.slice (some ⟨g,0,none⟩) (r.length+1) c) n S) (he:S.calls=v::r) (hv:v∉r) (hr:Rows B w f) (i:Nat) :
 ∃ f',Rows B (w.setCell ⟨g,r.length*2+1,none⟩ (.int .i64 (i:Int))) f'∧SN f' d nv lv fv pv ov (.slice (some ⟨g,0,none⟩) (r.length+1) c) n { S with idx:=updN S.idx v i }:=by
 have ho:=h.calls
 rw [he] at ho
 have hs:=hr.set ho (g:=g) (cap:=c) rfl (r.length*2+1) (.int .i64 (i:Int))
 refine ⟨_,hs,⟨?_,?_,?_,?_,?_,?_⟩⟩
 ·rw [upd_ne _ _ (by simp)]; exact h.box
 ·rw [upd_ne _ _ (by simp)]; exact h.low
 ·rw [upd_ne _ _ (by simp)]; exact h.fnd
 ·rw [upd_ne _ _ (by simp)]; exact h.opn
 ·rw [upd_ne _ _ (by simp)]; exact h.part
 ·rw [upd_same,he]
  simp only [flatF_cons,updN_same,List.length_cons]
  rw [List.set_append_right _ _ (by rw [flatF_len]; omega),flatF_len,show r.length*2+1-r.length*2=1 by omega,
   flatF_congr (f:=updN S.idx v i) (g:=S.idx) (fun x hx=>updN_other _ _ _ (fun e=>hv (by rw [← e]; exact hx)))]
  rfl
theorem SN.callTop {v:Nat} {r:List Nat} {g c:Nat} (h:SN f d nv lv fv pv ov (.slice (some ⟨g,0,none⟩) (r.length+1) c) n S) (he:S.calls=v::r) (hr:Rows B w f) :
 w.cell? ⟨g,r.length*2,none⟩=some (.int .i64 (v:Int))∧w.cell? ⟨g,r.length*2+1,none⟩=some (.int .i64 (S.idx v:Int))∧w.frozen? ⟨g,r.length*2+1,none⟩=false:=by
 have ho:=h.calls
 rw [he] at ho
 refine ⟨?_,?_,hr.frozen ho (g:=g) (cap:=c) rfl _⟩
 ·rw [hr.cell ho (g:=g) (cap:=c) rfl _ (by simp only [List.length_cons]; omega),flatF_cons,List.getElem?_append_right (by rw [flatF_len]; omega),flatF_len,Nat.sub_self]; rfl
 ·rw [hr.cell ho (g:=g) (cap:=c) rfl _ (by simp; omega),flatF_cons,List.getElem?_append_right (by rw [flatF_len]; omega),flatF_len,show r.length*2+1-r.length*2=1 by omega]; rfl
theorem row_shape {E:TypeId} {size m:Nat} {v:Value} {xs:List Value} (h:w.ownsRow B E size v m xs) (hm:0<m):∃ g c,v=.slice (some ⟨g,0,none⟩) m c∧m≤c:=by
 rcases h.2 with ⟨_,e⟩ | ⟨g,cap,cur,e,_,_,hn,_⟩
 ·omega
 ·exact ⟨g,cap,e,hn⟩
theorem SN.callsShape (h:SN f d nv lv fv pv ov cv n S) (hr:Rows B w f) (hc:S.calls≠[]):∃ g c,cv=.slice (some ⟨g,0,none⟩) S.calls.length c∧S.calls.length≤c :=
 row_shape (hr.1 _ _ h.calls) (List.length_pos_iff.2 hc)
theorem SN.opnShape (h:SN f d nv lv fv pv ov cv n S) (hr:Rows B w f) (hc:S.opn≠[]):∃ g c,ov=.slice (some ⟨g,0,none⟩) S.opn.length c∧S.opn.length≤c:=by
 have:=row_shape (hr.1 _ _ h.opn) (by show 0<(upI S.opn).length; rw [upI_len]; exact List.length_pos_iff.2 hc)
 obtain ⟨g,c,e,e2⟩:=this
 have e:ov=.slice (some ⟨g,0,none⟩) (upI S.opn).length c:=e
 have e2:(upI S.opn).length≤c:=e2
 rw [upI_len] at e e2
 exact ⟨g,c,e,e2⟩
theorem SN.opnNil {adj:Nat→List Nat} (_h:SN f d nv lv fv pv ov cv n S) (hI:TInv n adj S) (hc:S.calls=[]):S.opn=[]:=hI.opn_nil hc
theorem SN.callsLen (h:SN f d nv lv fv pv ov cv n S) (hr:Rows B w f):∃ a c,cv=.slice a S.calls.length c:=by
 rcases (hr.1 _ _ h.calls).2 with ⟨e,e2⟩ | ⟨g,cap,cur,e,_⟩
 ·have e2:S.calls.length=0:=e2
  have e:cv=.slice none 0 0:=e
  exact ⟨none,0,by rw [e,e2]⟩
 ·exact ⟨_,_,e⟩
end
end Go.Proofs.YtindfaehjoileaaGreatDoor
namespace Go.Proofs.YtindfaehjoileaaGreatDoor
inductive Way (adj:Nat→List Nat):Nat→Nat→List Nat→Prop
 | one (x:Nat):Way adj x x [x]
 | cons {x t y:Nat} {w:List Nat} (ht:t∈adj x) (h:Way adj t y w):Way adj x y (x::w)
theorem Way.goes {adj:Nat→List Nat} {x y:Nat} {w:List Nat} (h:Way adj x y w):Goes adj x y:=by
 induction h with
 | one=>exact .refl _
 | cons ht _ ih=>exact (Goes.one ht).trans ih
theorem Way.snoc {adj:Nat→List Nat} {x y z:Nat} {w:List Nat} (h:Way adj x y w) (hz:z∈adj y):Way adj x z (w++[z]):=by
 induction h with
 | one=>exact .cons hz (.one _)
 | cons ht _ ih=>exact .cons ht (ih hz)
theorem Goes.way {adj:Nat→List Nat} {x y:Nat} (h:Goes adj x y):∃ w,Way adj x y w:=by
 induction h with
 | refl=>exact ⟨_,.one _⟩
 | step _ hz ih=>obtain ⟨w,hw⟩:=ih; exact ⟨_,hw.snoc hz⟩
theorem Way.ne {adj:Nat→List Nat} {x y:Nat} {w:List Nat} (h:Way adj x y w):∃ w',w=x::w':=by
 cases h with
 | one=>exact ⟨_,rfl⟩
 | cons=>exact ⟨_,rfl⟩
theorem Way.pos {adj:Nat→List Nat} {x y:Nat} {w:List Nat} (h:Way adj x y w):0<w.length:=by
 obtain ⟨w',rfl⟩:=h.ne; simp
def lexLe:List Nat→List Nat→Prop
 | [],_=>True
 | _::_,[]=>False
 | a::l,b::m=>a<b∨(a=b∧lexLe l m)
theorem lexLe_refl:∀ l,lexLe l l
 | []=>trivial
 | _::l=>.inr ⟨rfl,lexLe_refl l⟩
theorem lexLe_antisymm:∀ {l m:List Nat},l.length=m.length→lexLe l m→lexLe m l→l=m
 | [],[],_,_,_=>rfl
 | [],_::_,h,_,_=>by simp at h
 | _::_,[],h,_,_=>by simp at h
 | a::l,b::m,h,h1,h2=>by
  simp only [lexLe] at h1 h2
  have hl:l.length=m.length:=by simpa using h
  rcases h1 with q | ⟨q,r⟩<;>rcases h2 with q' | ⟨q',r'⟩
  ·omega
  ·omega
  ·omega
  ·rw [q,lexLe_antisymm hl r r']
structure IsFirst (adj:Nat→List Nat) (x y:Nat) (w:List Nat):Prop where
 way:Way adj x y w
 short:∀ u,Way adj x y u→w.length≤u.length
 least:∀ u,Way adj x y u→u.length=w.length→lexLe w u
theorem IsFirst.unique {adj:Nat→List Nat} {x y:Nat} {w u:List Nat} (h:IsFirst adj x y w) (h2:IsFirst adj x y u):w=u:=by
 have e:w.length=u.length:=by have:=h.short u h2.way; have:=h2.short w h.way; omega
 exact lexLe_antisymm e (h.least u h2.way e.symm) (h2.least w h.way e)
theorem IsFirst.tail {adj:Nat→List Nat} {x y t:Nat} {w:List Nat} (h:IsFirst adj x y (x::t::w)):IsFirst adj t y (t::w):=by
 obtain ⟨ht,hw⟩:t∈adj x∧Way adj t y (t::w):=by
  have h1:=h.way
  cases h1 with
  | cons ht h2=>obtain ⟨w',e⟩:=h2.ne; injection e with e1 e2; subst e1; exact ⟨ht,h2⟩
 refine ⟨hw,fun u hu=>?_,fun u hu hl=>?_⟩
 ·have:=h.short _ (.cons ht hu); simp only [List.length_cons] at this ⊢; omega
 ·have:=h.least _ (.cons ht hu) (by simp only [List.length_cons] at hl ⊢; omega)
  exact (this.resolve_left (Nat.lt_irrefl _)).2
theorem Way.mem {adj:Nat→List Nat} {x y:Nat} {w:List Nat} (h:Way adj x y w):∀ z∈w,∃ u,Way adj z y u∧u.length≤w.length:=by
 induction h with
 | one=>intro z hz; cases List.mem_singleton.1 hz; exact ⟨_,.one _,Nat.le_refl _⟩
 | cons ht h ih =>
  intro z hz
  rcases List.mem_cons.1 hz with rfl | hz
  ·exact ⟨_,.cons ht h,Nat.le_refl _⟩
  ·obtain ⟨u,h1,h2⟩:=ih z hz; exact ⟨u,h1,by simp only [List.length_cons]; omega⟩
theorem IsFirst.nodup {adj:Nat→List Nat} {x y:Nat} {w:List Nat} (h:IsFirst adj x y w):w.Nodup:=by
 induction w generalizing x with
 | nil=>exact List.nodup_nil
 | cons a w ih =>
  obtain ⟨w',e⟩:=h.way.ne
  injection e with e1 e2
  subst e1; subst e2
  cases w with
  | nil=>simp
  | cons t w =>
   refine List.nodup_cons.2 ⟨fun hm=>?_,ih h.tail⟩
   obtain ⟨u,h1,h2⟩:=h.tail.way.mem _ hm
   have:=h.short u h1
   simp only [List.length_cons] at this h2; omega
structure BBase (adj:Nat→List Nat) (a:Nat) (came:Nat→Int) (q:List Nat) (par dist:Nat→Nat) (b i:Nat):Prop where
 hd:q[0]?=some a
 nodup:q.Nodup
 cameIff:∀ x,0≤came x↔x∈q
 low:∀ x,-1≤came x
 root:came a=a
 dist0:dist a=0
 parLt:∀ (j x:Nat),0<j→q[j]?=some x→par j<b∧par j<j∧∃ p,q[par j]?=some p∧came x=(p:Int)∧x∈adj p∧dist x=dist p+1
 mono:∀ (j k x y:Nat),0<j→j<k→q[j]?=some x→q[k]?=some y→par j≤par k∧(par j=par k→x<y)
 distMono:∀ (j k x y:Nat),j≤k→q[j]?=some x→q[k]?=some y→dist x≤dist y
 closed:∀ p x,p<i→q[p]?=some x→∀ t∈adj x,∃ j,q[j]?=some t∧(0<j→par j≤p)
abbrev BOut (adj:Nat→List Nat) (a:Nat) (came:Nat→Int) (q:List Nat) (par dist:Nat→Nat) (i:Nat):Prop:=BBase adj a came q par dist i i
structure BIn (adj:Nat→List Nat) (a:Nat) (came:Nat→Int) (q:List Nat) (par dist:Nat→Nat) (i v:Nat) (l:List Nat):Prop where
 base:BBase adj a came q par dist (i+1) i
 cur:q[i]?=some v
 sub:∀ t∈l,t∈adj v
 sorted:l.Pairwise (·≤·)
 seen:∀ t∈adj v,t∈l∨∃ j,q[j]?=some t∧(0<j→par j≤i)
 new:∀ j x,0<j→q[j]?=some x→par j=i→∀ t∈l,x≤t
variable {adj:Nat→List Nat} {a:Nat} {came:Nat→Int} {q:List Nat} {par dist:Nat→Nat} {b i v:Nat} {l:List Nat}
theorem get_of {q:List Nat} {j x:Nat} (h:q[j]?=some x):j<q.length:=by
 by_cases e:j<q.length
 ·exact e
 ·rw [List.getElem?_eq_none (by omega)] at h; cases h
theorem get_inj {q:List Nat} (hn:q.Nodup) {j k x:Nat} (h:q[j]?=some x) (h2:q[k]?=some x):j=k:=by
 have h1:=get_of h
 exact (List.getElem?_inj h1 hn).1 (h.trans h2.symm)
theorem BBase.enter (h:BOut adj a came q par dist i) (hv:q[i]?=some v) (hl:∀ t,t∈l↔t∈adj v) (hs:l.Pairwise (·≤·)):BIn adj a came q par dist i v l:=by
 refine ⟨⟨h.hd,h.nodup,h.cameIff,h.low,h.root,h.dist0,fun j x hj hx=>?_,h.mono,h.distMono,h.closed⟩,hv,fun t ht=>(hl t).1 ht,hs,fun t ht=>.inl ((hl t).2 ht),fun j x hj hx hp=>?_⟩
 ·obtain ⟨h1,h2,h3⟩:=h.parLt j x hj hx
  exact ⟨by omega,h2,h3⟩
 ·have:=(h.parLt j x hj hx).1; omega
theorem BIn.leave (h:BIn adj a came q par dist i v []):BOut adj a came q par dist (i+1):=by
 refine ⟨h.base.hd,h.base.nodup,h.base.cameIff,h.base.low,h.base.root,h.base.dist0,h.base.parLt,h.base.mono,h.base.distMono,fun p x hp hx t ht=>?_⟩
 by_cases e:p=i
 ·subst e
  rw [h.cur] at hx; cases hx
  exact (h.seen t ht).resolve_left (by simp)
 ·exact h.base.closed p x (by omega) hx t ht
theorem BIn.old {t:Nat} (h:BIn adj a came q par dist i v (t::l)) (ht:0≤came t):BIn adj a came q par dist i v l:=by
 refine ⟨h.base,h.cur,fun x hx=>h.sub x (List.mem_cons_of_mem _ hx),(List.pairwise_cons.1 h.sorted).2,fun x hx=>?_,fun j x hj hx hp y hy=>h.new j x hj hx hp y (List.mem_cons_of_mem _ hy)⟩
 rcases h.seen x hx with q1 | q1
 ·rcases List.mem_cons.1 q1 with e | e
  ·subst e
   obtain ⟨j,hj⟩:=List.mem_iff_getElem?.1 ((h.base.cameIff x).1 ht)
   refine .inr ⟨j,hj,fun hj0=>?_⟩
   have:=(h.base.parLt j x hj0 hj).1; omega
  ·exact .inl e
 ·exact .inr q1
theorem BIn.add {t:Nat} (h:BIn adj a came q par dist i v (t::l)) (ht:came t<0) :
 BIn adj a (updN came t (v:Int)) (q++[t]) (updN par q.length i) (updN dist t (dist v+1)) i v l:=by
 have hB:=h.base
 have htq:t∉q:=fun hm=>by have:=(hB.cameIff t).2 hm; omega
 have hil:=get_of h.cur
 have hga:∀ j x,(q++[t])[j]?=some x→q[j]?=some x∧j<q.length∧x≠t∨j=q.length∧x=t:=fun j x hx=>by
  by_cases e:j<q.length
  ·rw [List.getElem?_append_left e] at hx
   exact .inl ⟨hx,e,fun e2=>htq (by rw [← e2]; exact List.mem_of_getElem? hx)⟩
  ·rw [List.getElem?_append_right (by omega)] at hx
   by_cases e2:j=q.length
   ·rw [e2] at hx; simp at hx; exact .inr ⟨e2,hx.symm⟩
   ·rw [List.getElem?_eq_none (by simp; omega)] at hx; cases hx
 have hgo:∀ {j x},q[j]?=some x→(q++[t])[j]?=some x:=fun {j x} hx=>by rw [List.getElem?_append_left (get_of hx)]; exact hx
 have hne:∀ x,x∈q→x≠t:=fun x hx e=>htq (by rw [← e]; exact hx)
 have hvt:v≠t:=hne v (List.mem_of_getElem? h.cur)
 have po:∀ j,j<q.length→updN par q.length i j=par j:=fun j hj=>updN_other _ _ _ (by omega)
 have dq:∀ x,x∈q→updN dist t (dist v+1) x=dist x:=fun x hx=>updN_other _ _ _ (hne x hx)
 have haq:a∈q:=List.mem_of_getElem? hB.hd
 have hdle:∀ x,x∈q→dist x≤dist v+1:=fun x hx=>by
  obtain ⟨j,hj⟩:=List.mem_iff_getElem?.1 hx
  by_cases e:0<j
  ·obtain ⟨h1,h2,p,h3,h4,h5,h6⟩:=hB.parLt j x e hj
   have:=hB.distMono (par j) i p v (by omega) h3 h.cur
   omega
  ·have:j=0:=by omega
   subst this; rw [hB.hd] at hj; cases hj; have:=hB.dist0; omega
 refine ⟨⟨hgo hB.hd,?_,fun x=>?_,fun x=>?_,?_,?_,fun j x hj hx=>?_,fun j k x y hj hjk hx hy=>?_,fun j k x y hjk hx hy=>?_,fun p x hp hx t' ht'=>?_⟩,hgo h.cur,fun x hx=>h.sub x (List.mem_cons_of_mem _ hx),(List.pairwise_cons.1 h.sorted).2,fun x hx=>?_,fun j x hj hx hp y hy=>?_⟩
 ·exact List.nodup_append.2 ⟨hB.nodup,by simp,fun x hx y hy=>by cases List.mem_singleton.1 hy; exact hne x hx⟩
 ·by_cases e:x=t
  ·subst e; rw [updN_same]; simp
  ·rw [updN_other _ _ _ e,hB.cameIff]; simp [e]
 ·by_cases e:x=t
  ·subst e; rw [updN_same]; omega
  ·rw [updN_other _ _ _ e]; exact hB.low x
 ·rw [updN_other _ _ _ (hne a haq)]; exact hB.root
 ·rw [dq a haq]; exact hB.dist0
 ·rcases hga j x hx with ⟨h1,h2,h3⟩ | ⟨rfl,rfl⟩
  ·obtain ⟨p1,p2,p,p3,p4,p5,p6⟩:=hB.parLt j x hj h1
   rw [po j h2,updN_other _ _ _ h3,dq x (List.mem_of_getElem? h1)]
   exact ⟨p1,p2,p,hgo p3,p4,p5,by rw [dq p (List.mem_of_getElem? p3)]; exact p6⟩
  ·rw [updN_same,updN_same,updN_same]
   exact ⟨by omega,hil,v,hgo h.cur,rfl,h.sub _ List.mem_cons_self,by rw [dq v (List.mem_of_getElem? h.cur)]⟩
 ·rcases hga j x hx with ⟨h1,h2,h3⟩ | ⟨rfl,rfl⟩
  ·rcases hga k y hy with ⟨k1,k2,k3⟩ | ⟨rfl,rfl⟩
   ·rw [po j h2,po k k2]; exact hB.mono j k x y hj hjk h1 k1
   ·rw [po j h2,updN_same]
    have:=(hB.parLt j x hj h1).1
    exact ⟨by omega,fun e=>by have:=h.new j x hj h1 e y List.mem_cons_self; omega⟩
  ·rcases hga k y hy with ⟨k1,k2,k3⟩ | ⟨rfl,rfl⟩<;>omega
 ·rcases hga k y hy with ⟨k1,k2,k3⟩ | ⟨rfl,rfl⟩
  ·rcases hga j x hx with ⟨h1,h2,h3⟩ | ⟨rfl,rfl⟩
   ·rw [dq x (List.mem_of_getElem? h1),dq y (List.mem_of_getElem? k1)]; exact hB.distMono j k x y hjk h1 k1
   ·omega
  ·rcases hga j x hx with ⟨h1,h2,h3⟩ | ⟨h1,rfl⟩
   ·rw [dq x (List.mem_of_getElem? h1),updN_same]; exact hdle x (List.mem_of_getElem? h1)
   ·exact Nat.le_refl _
 ·rcases hga p x hx with ⟨h1,h2,h3⟩ | ⟨h1,rfl⟩
  ·obtain ⟨j,j1,j2⟩:=hB.closed p x hp h1 t' ht'
   exact ⟨j,hgo j1,fun hj=>by rw [po j (get_of j1)]; exact j2 hj⟩
  ·omega
 ·by_cases e:x=t
  ·subst e; exact .inr ⟨q.length,by simp,fun _=>by rw [updN_same]; exact Nat.le_refl _⟩
  ·rcases h.seen x hx with q1 | ⟨j,j1,j2⟩
   ·exact .inl ((List.mem_cons.1 q1).resolve_left e)
   ·exact .inr ⟨j,hgo j1,fun hj=>by rw [po j (get_of j1)]; exact j2 hj⟩
 ·rcases hga j x hx with ⟨h1,h2,h3⟩ | ⟨rfl,rfl⟩
  ·rw [po j h2] at hp; exact h.new j x hj h1 hp y (List.mem_cons_of_mem _ hy)
  ·exact (List.pairwise_cons.1 h.sorted).1 y hy
theorem BBase.init (adj:Nat→List Nat) (a:Nat):BOut adj a (updN (fun _=>(-1:Int)) a (a:Int)) [a] (fun _=>0) (fun _=>0) 0:=by
 have hg:∀ j x,[a][j]?=some x→j=0∧x=a:=fun j x hx=>by
  cases j with
  | zero=>simp at hx; exact ⟨rfl,hx.symm⟩
  | succ j=>simp at hx
 refine ⟨rfl,by simp,fun x=>?_,fun x=>?_,updN_same _ _ _,rfl,fun j x hj hx=>?_,fun j k x y hj hjk hx hy=>?_,fun j k x y hjk hx hy=>Nat.le_refl _,fun p x hp=>by omega⟩
 ·by_cases e:x=a
  ·subst e; rw [updN_same]; simp
  ·rw [updN_other _ _ _ e]; simp [e]
 ·by_cases e:x=a
  ·subst e; rw [updN_same]; omega
  ·rw [updN_other _ _ _ e]; omega
 ·have:=(hg j x hx).1; omega
 ·have:=(hg j x hx).1; have:=(hg k y hy).1; omega
inductive Tree (came:Nat→Int) (q:List Nat) (adj:Nat→List Nat):Nat→Nat→List Nat→Prop
 | one (x:Nat) (hx:x∈q):Tree came q adj x x [x]
 | cons {x t y:Nat} {w:List Nat} (jx jt:Nat) (hx:q[jx]?=some x) (ht:q[jt]?=some t) (h0:0<jt) (hp:came t=(x:Int)) (h:Tree came q adj t y w):Tree came q adj x y (x::w)
theorem BBase.parent (h:BOut adj a came q par dist i) {jx jt x t:Nat} (hx:q[jx]?=some x) (ht:q[jt]?=some t) (h0:0<jt) (hp:came t=(x:Int)):par jt=jx∧jx<i∧jx<jt∧t∈adj x∧dist t=dist x+1:=by
 obtain ⟨h1,h2,p,h3,h4,h5,h6⟩:=h.parLt jt t h0 ht
 have e:p=x:=by rw [hp] at h4; omega
 subst e
 have:=get_inj h.nodup h3 hx
 exact ⟨this,by omega,by omega,h5,h6⟩
theorem Tree.way (h:BOut adj a came q par dist i) {x y:Nat} {w:List Nat} (ht:Tree came q adj x y w):Way adj x y w:=by
 induction ht with
 | one=>exact .one _
 | cons jx jt hx ht h0 hp _ ih=>exact .cons (h.parent hx ht h0 hp).2.2.2.1 ih
theorem Tree.distEq (h:BOut adj a came q par dist i) {x y:Nat} {w:List Nat} (ht:Tree came q adj x y w):dist y+1=dist x+w.length:=by
 induction ht with
 | one=>rfl
 | cons jx jt hx ht h0 hp _ ih=>have:=(h.parent hx ht h0 hp).2.2.2.2; simp only [List.length_cons]; omega
theorem Tree.last {x y:Nat} {w:List Nat} (ht:Tree came q adj x y w):y∈q:=by
 induction ht with
 | one _ hx=>exact hx
 | cons _ _ _ _ _ _ _ ih=>exact ih
theorem Tree.le (h:BOut adj a came q par dist i) {x y:Nat} {w:List Nat} (ht:Tree came q adj x y w):∀ {j k:Nat},q[j]?=some x→q[k]?=some y→j≤k:=by
 induction ht with
 | one=>intro j k hj hk; exact Nat.le_of_eq (get_inj h.nodup hj hk)
 | cons jx jt hx ht h0 hp _ ih =>
  intro j k hj hk
  have h1:=(h.parent hx ht h0 hp).2.2.1
  have h2:=ih ht hk
  have:=get_inj h.nodup hj hx
  omega
theorem BBase.far (h:BOut adj a came q par dist i) {x y:Nat} {u:List Nat} (hu:Way adj x y u) (hx:x∈q) (hy:y∈q):dist y+1≤dist x+u.length:=by
 induction hu with
 | one=>simp
 | @cons x t y w ht hu ih =>
  obtain ⟨jx,hjx⟩:=List.mem_iff_getElem?.1 hx
  have hl:=hu.pos
  simp only [List.length_cons]
  by_cases hi:jx<i
  ·obtain ⟨jt,h1,h2⟩:=h.closed jx x hi hjx t ht
   have:=ih (List.mem_of_getElem? h1) hy
   have hd:dist t≤dist x+1:=by
    by_cases h0:0<jt
    ·obtain ⟨_,_,p,p1,_,_,p2⟩:=h.parLt jt t h0 h1
     have:=h.distMono _ _ _ _ (h2 h0) p1 hjx
     omega
    ·have:jt=0:=by omega
     subst this; rw [h.hd] at h1; cases h1; have:=h.dist0; omega
   omega
  ·obtain ⟨jy,hjy⟩:=List.mem_iff_getElem?.1 hy
   by_cases h0:0<jy
   ·obtain ⟨p0,_,p,p1,_,_,p2⟩:=h.parLt jy y h0 hjy
    have:=h.distMono _ _ _ _ (show par jy≤jx by omega) p1 hjx
    omega
   ·have:jy=0:=by omega
    subst this; rw [h.hd] at hjy; cases hjy; have:=h.dist0; omega
theorem BBase.longer (h:BOut adj a came q par dist i) {x y b:Nat} {u w:List Nat} (hu:Way adj x b u) (ht:Tree came q adj y b w) {jx jy:Nat} (hjx:q[jx]?=some x) (hjy:q[jy]?=some y) (hlt:jx<jy):w.length<u.length:=by
 induction hu generalizing y w jx jy with
 | one=>have:=ht.le h hjy hjx; omega
 | @cons x x' b u' hx' hu ih =>
  cases ht with
  | one=>have:=hu.pos; simp only [List.length_cons,List.length_nil]; omega
  | cons jy2 jt hy2 hjt h0 hp ht =>
   obtain ⟨e1,e2,e3,_,_⟩:=h.parent hy2 hjt h0 hp
   have e4:=get_inj h.nodup hjy hy2
   obtain ⟨jx',k1,k2⟩:=h.closed jx x (by omega) hjx x' hx'
   have:jx'<jt:=by
    by_cases q1:jx'<jt
    ·exact q1
    ·exfalso
     by_cases q2:jx'=jt
     ·rw [q2] at k2; have:=k2 h0; omega
     ·have:=(h.mono jt jx' _ _ h0 (by omega) hjt k1).1
      have:=k2 (by omega); omega
   have:=ih ht k1 hjt this
   simp only [List.length_cons]; omega
theorem BBase.lex (h:BOut adj a came q par dist i) {x b:Nat} {u w:List Nat} (hu:Way adj x b u) (ht:Tree came q adj x b w) (hl:u.length=w.length):lexLe w u:=by
 induction hu generalizing w with
 | one =>
  cases ht with
  | one=>exact lexLe_refl _
  | cons _ _ _ _ _ _ ht=>cases ht<;>simp at hl
 | @cons x x' b u' hx' hu ih =>
  cases ht with
  | one=>have:=hu.pos; simp only [List.length_cons,List.length_nil] at hl; omega
  | @cons _ t _ w' jx jt hjx hjt h0 hp ht =>
   obtain ⟨e1,e2,e3,_,_⟩:=h.parent hjx hjt h0 hp
   have hl':u'.length=w'.length:=by simpa using hl
   by_cases e:x'=t
   ·subst e; exact .inr ⟨rfl,ih ht hl'⟩
   ·refine .inr ⟨rfl,?_⟩
    obtain ⟨jx',k1,k2⟩:=h.closed jx x e2 hjx x' hx'
    have hne:jx'≠jt:=fun q1=>by subst q1; rw [k1] at hjt; injection hjt with q2; exact e q2
    have hge:jt<jx':=by
     by_cases q1:jx'<jt
     ·have:=h.longer hu ht k1 hjt q1; omega
     ·omega
    have hm:=h.mono jt jx' t x' h0 hge hjt k1
    have:=k2 (by omega)
    have hlt:=hm.2 (by omega)
    obtain ⟨_,rfl⟩:=hu.ne
    obtain ⟨_,rfl⟩:=(ht.way h).ne
    exact .inl hlt
theorem BBase.first (h:BOut adj a came q par dist i) {b:Nat} {w:List Nat} (ht:Tree came q adj a b w):IsFirst adj a b w :=
 ⟨ht.way h,fun u hu=>by
   have h1:=h.far hu (List.mem_of_getElem? h.hd) ht.last
   have h2:=ht.distEq h
   omega,fun u hu hl=>h.lex hu ht hl⟩
theorem BBase.none (h:BOut adj a came q par dist i) (hi:q.length≤i) {b:Nat} (hb:came b<0):¬ Goes adj a b:=fun hg=>by
 have:=Goes.closed (P:=fun x=>x∈q) (fun x hx t ht=>by
  obtain ⟨j,hj⟩:=List.mem_iff_getElem?.1 hx
  obtain ⟨k,hk,_⟩:=h.closed j x (by have:=get_of hj; omega) hj t ht
  exact List.mem_of_getElem? hk) hg (List.mem_of_getElem? h.hd)
 have:=(h.cameIff b).2 this
 omega
open Go.RowKit
def ListsAt (w:World) (v:Value) (G:List (List Int)):Prop :=
 ∃ vs:List Value,ValsAt w v vs∧vs.length=G.length∧∀ i,i<G.length→IntsAt w (vAt vs i) (G.getD i [])
theorem ListsAt.below {w w':World} {v:Value} {G:List (List Int)} (h:ListsAt w v G) (hb:Below w.heap.size w w'):ListsAt w' v G:=by
 obtain ⟨vs,h1,h2,h3⟩:=h
 exact ⟨vs,h1.below hb,h2,fun i hi=>(h3 i hi).below hb⟩
theorem ListsAt.drewN {w:World} {v:Value} {G:List (List Int)} (h:ListsAt w v G) (n:Nat):ListsAt (w.drewN n) v G:=h
theorem ListsAt.len {w:World} {v:Value} {G:List (List Int)} (h:ListsAt w v G) (ty:TypeId) (w':World) :
 (Builtin.len_ #[178] ty #[v]).run Tryz.prog w'=.ok (.int .i64 G.length) w':=by
 obtain ⟨vs,h1,h2,h3⟩:=h
 rw [h1.len oneLists,h2]
theorem ListsAt.shape {w:World} {v:Value} {G:List (List Int)} (h:ListsAt w v G):∃ a c,v=.slice a G.length c:=by
 obtain ⟨vs,⟨a,c,e,_⟩,h2,_⟩:=h
 exact ⟨a,c,by rw [e,h2]⟩
theorem ListsAt.row {w:World} {v:Value} {G:List (List Int)} (h:ListsAt w v G) (x:Nat) (hx:x<G.length) :
 ∃ mv,(∀ w',(Instr.indexAt 178 v (.int .i64 x)).run Tryz.prog w'=.ok (.pointer (some (valAt v x))) w')∧w.cell? (valAt v x)=some mv∧IntsAt w mv (G.getD x []):=by
 obtain ⟨vs,h1,h2,h3⟩:=h
 exact ⟨vAt vs x,fun w'=>h1.idx oneLists x (by omega) w',h1.cellV x (by omega),h3 x hx⟩
def adjOf (G:List (List Int)) (v:Nat):List Nat:=(G.getD v []).map Int.toNat
def GraphOk (G:List (List Int)):Prop:=∀ v,v<G.length→∀ t∈G.getD v [],0≤t∧t<G.length
theorem adjOf_len (G:List (List Int)) (v:Nat):(adjOf G v).length=(G.getD v []).length:=by simp [adjOf]
theorem GraphOk.lt {G:List (List Int)} (h:GraphOk G):∀ v,v<G.length→∀ t∈adjOf G v,t<G.length:=by
 intro v hv t ht
 obtain ⟨i,hi,rfl⟩:=List.mem_map.1 ht
 have:=h v hv i hi
 omega
theorem GraphOk.get {G:List (List Int)} (h:GraphOk G) {v:Nat} (hv:v<G.length) {i:Nat} (hi:i<(G.getD v []).length):(G.getD v []).getD i 0=((adjOf G v).getD i 0:Int):=by
 have hm:(G.getD v [])[i]∈G.getD v []:=List.getElem_mem hi
 have:=h v hv _ hm
 simp only [adjOf,List.getD_eq_getElem?_getD (l:=List.map _ _),List.getElem?_map,List.getElem?_eq_getElem hi,Option.map_some,Option.getD_some]
 rw [List.getD_eq_getElem?_getD,List.getElem?_eq_getElem hi,Option.getD_some]
 omega
set_option maxRecDepth 100000
def rowsOf (n:Nat) (F:Nat→List Int):List (List Int):=(List.range n).map F
theorem rowsOf_len (n:Nat) (F:Nat→List Int):(rowsOf n F).length=n:=by simp [rowsOf]
theorem rowsOf_get (n:Nat) (F:Nat→List Int) (u:Nat) (hu:u<n):(rowsOf n F).getD u []=F u:=by simp [rowsOf,List.getD,hu]
theorem vAt_set_same {l:List Value} {k:Nat} {g:Value} (h:k<l.length):vAt (l.set k g) k=g:=by simp [vAt,List.getD,h]
theorem vAt_set_ne {l:List Value} {k t:Nat} {g:Value} (h:t≠k):vAt (l.set k g) t=vAt l t:=by
 simp [vAt,List.getD,Ne.symm h]
structure WN (f:Names) (ov:Value) (vals:List Value) (n:Nat) (F:Nat→List Int):Prop where
 outer:f (1,0)=some (rowV 30 ov vals)
 len:vals.length=n
 rows:∀ u,u<n→f (2,u)=some (rowI (vAt vals u) (F u))
section
variable {B:Nat} {w:World} {f:Names} {ov:Value} {vals:List Value} {n:Nat} {F:Nat→List Int}
theorem WN.lists (h:WN f ov vals n F) (hr:Rows B w f):ListsAt w ov (rowsOf n F) :=
 ⟨vals,(hr.ownV h.outer).at,by rw [h.len,rowsOf_len],fun i hi=>by
   rw [rowsOf_len] at hi
   rw [rowsOf_get n F i hi]
   exact (hr.ownI (h.rows i hi)).at⟩
theorem WN.put (h:WN f ov vals n F) {w1:World} {u:Nat} (hu:u<n) {v':Value} {xs:List Int} (hr1:Rows B w1 (upd f (2,u) (some (rowI v' xs)))) :
 w1.cell? (valAt ov u)=some (vAt vals u)∧w1.frozen? (valAt ov u)=false∧B≤(valAt ov u).block ∧
 ∃ f',Rows B (w1.setCell (valAt ov u) v') f'∧WN f' ov (vals.set u v') n (updN F u xs)∧∀ i,i≠(1,0)→i≠(2,u)→f' i=f i:=by
 have ho:upd f (2,u) (some (rowI v' xs)) (1,0)=some (rowV 30 ov vals):=by rw [upd_ne _ _ (by simp)]; exact h.outer
 have hl:u<vals.length:=by rw [h.len]; exact hu
 have hO:=hr1.ownV ho
 refine ⟨hO.at.cellV u hl,hO.frz u hl,(hO.blkB u hl).2,_,hr1.setV ho u hl v',⟨upd_same _ _ _,by simpa using h.len,fun t ht=>?_⟩,fun i h1 h2=>by rw [upd_ne _ _ h1,upd_ne _ _ h2]⟩
 rw [upd_ne _ _ (by simp)]
 by_cases e:t=u
 ·subst e
  rw [upd_same,vAt_set_same hl,updN_same]
 ·rw [upd_ne _ _ (by simpa using e),vAt_set_ne e,updN_other _ _ _ e]
  exact h.rows t ht
theorem WN.new (_h:WN f ov vals n F) (hr:Rows B w f) {w1:World} (u:Nat) {v':Value} {xs:List Int} (hb:Below w.heap.size w w1) (hB:B≤w.heap.size) (ho:OwnI w.heap.size w1 v' xs):Rows B w1 (upd f (2,u) (some (rowI v' xs))) :=
 hr.add hb (ho.mono hB) (fun k hk=>(ho.lt k hk).1)
theorem WN.app (h:WN f ov vals n F) (hr:Rows B w f) {w1:World} {u:Nat} (hu:u<n) {v':Value} (x:Int) (ho:OwnI B w1 v' (F u++[x]))
 (hal:(roomOf v'=roomOf (vAt vals u)∧w.grownBy w1 (vAt vals u).ownBlock)∨(∃ k,v'.ownBlock=some k∧w.heap.size≤k∧w.grownBy w1 none)):Rows B w1 (upd f (2,u) (some (rowI v' (F u++[x])))):=by
 have hO:=hr.ownI (h.rows u hu)
 refine hr.grown (r':=rowI v' (F u++[x])) (h.rows u hu) (grown_via (hal.imp (·.2) (fun ⟨_,_,_,q⟩=>q))) ho ?_
 rcases hal with ⟨q,_⟩ | ⟨k,h1,h2,_⟩
 ·obtain ⟨a1,n1,c1,e1⟩:=hO.at.shape
  obtain ⟨a2,n2,c2,e2⟩:=ho.at.shape
  exact .inl (ownBlock_of_room e1 e2 q)
 ·exact .inr ⟨k,h1,h2⟩
theorem WN.elem (h:WN f ov vals n F) (hr:Rows B w f) (u:Nat) (hu:u<n) (i:Nat) (hi:i<(F u).length) (x:Int) :
 ∃ f',Rows B (w.setCell (valAt (vAt vals u) i) (.int .i64 x)) f'∧WN f' ov vals n (updN F u ((F u).set i x)):=by
 refine ⟨_,hr.setI (h.rows u hu) i hi x,⟨by rw [upd_ne _ _ (by simp)]; exact h.outer,h.len,fun t ht=>?_⟩⟩
 by_cases e:t=u
 ·subst e; rw [upd_same,updN_same]
 ·rw [upd_ne _ _ (by simpa using e),updN_other _ _ _ e]; exact h.rows t ht
end
theorem run_makeW {T E:TypeId} {z:Value} {b:Nat} (oc:OneCell T E z b) (C:Int) (n:Nat) (w:World) (hC:C=n) (hn:n≤4398046511104) :
 ∃ v w',(Instr.makeSlice T (.int .i64 C) (.int .i64 C)).run Tryz.prog w=.ok v w'∧OwnV E w.heap.size w' v (List.replicate n z)∧Below w.heap.size w w':=by
 subst hC
 obtain ⟨i,hi,hz0,hz1,hz2⟩:=info_parts oc.hi
 have hb:=oc.hb
 obtain ⟨w',hrun,r1,r2⟩:=run_make_full (P:=Tryz.prog) w w.heap.size T E i z 1 oc.ht hi hz0 hz1 .i64 .i64 n (by
  rw [hz2]
  calc b*n≤32*4398046511104:=Nat.mul_le_mul hb (by omega)
   _≤_:=by decide) (by unfold maxLen; omega) (Nat.le_refl _)
 refine ⟨_,w',hrun,?_,(Below.refl _ _).grown r2 (Nat.le_refl _) (by intro k hk; cases hk)⟩
 rw [oc.hz,toList_madeCells_one] at r1
 simpa [OwnV] using r1
def nils (n:Nat):Names:=fun i=>if i.1=2∧i.2<n then some (rowI (.slice none 0 0) []) else none
theorem rows_nils (B:Nat) (w:World) (n:Nat):Rows B w (nils n):=by
 refine ⟨fun i r hi=>?_,fun i j r s hi _ _=>?_⟩
 ·unfold nils at hi
  split at hi
  ·injection hi with hi; subst hi; exact OwnI.nil B w
  ·cases hi
 ·left
  unfold nils at hi
  split at hi
  ·injection hi with hi; subst hi; rfl
  ·cases hi
theorem WN.made {B:Nat} {w w1:World} {ov:Value} (n:Nat) (hb:Below w.heap.size w w1) (hB:B≤w.heap.size) (ho:OwnV 30 w.heap.size w1 ov (List.replicate n (.slice none 0 0))) :
 ∃ f,Rows B w1 f∧WN f ov (List.replicate n (.slice none 0 0)) n (fun _=>[]):=by
 refine ⟨_,(rows_nils B w n).add (i:=(1,0)) (r':=rowV 30 ov (List.replicate n (.slice none 0 0))) hb (ho.mono hB) (fun k hk=>(ho.lt k hk).1),⟨upd_same _ _ _,by simp,fun u hu=>?_⟩⟩
 rw [upd_ne _ _ (by simp)]
 show nils n (2,u)=_
 unfold nils
 rw [if_pos ⟨rfl,hu⟩]
 simp [vAt,List.getD,hu]
def TwoInts (T E:TypeId):Prop:=Tryz.prog.underlying T=some (.slice E)∧∃ i,Tryz.prog.info? E=some i∧i.zero=some (.agg #[.int .i64 0,.int .i64 0])∧i.size=2∧i.bytes=16
theorem twoInts_mk {T E:TypeId} (h1:Tryz.prog.underlying T=some (.slice E)) (h2:(Tryz.prog.info? E).map (fun i=>(i.zero,i.size,i.bytes))=some (some (.agg #[.int .i64 0,.int .i64 0]),2,16)):TwoInts T E:=by
 refine ⟨h1,?_⟩
 cases h:Tryz.prog.info? E with
 | none=>rw [h] at h2; cases h2
 | some i=>rw [h] at h2; simp at h2; exact ⟨i,rfl,h2.1,h2.2.1,h2.2.2⟩
theorem run_app2 {T E:TypeId} (tc:TwoInts T E) (w:World) (B:Nat) (ty:TypeId) (v:Value) (m:Nat) (xs:List Value) (hown:w.ownsRow B E 2 v m xs)
 (b:Nat) (y0 y1:Int) (hys:∀ (j:Nat) (u:Value),([Value.int .i64 y0,.int .i64 y1]:List Value)[j]?=some u→w.cell? ((⟨b,0,none⟩:Addr).add j)=some u) (hlen:m<1000000) (hB:B≤w.heap.size) :
 ∃ g n' c' w',(Builtin.append_ #[T,T] ty #[v,.slice (some ⟨b,0,none⟩) 1 1]).run Tryz.prog w=.ok (.slice (some ⟨g,0,none⟩) n' c') w'∧n'=m+1∧w'.ownsRow B E 2 (.slice (some ⟨g,0,none⟩) (m+1) c') (m+1) (xs++[.int .i64 y0,.int .i64 y1]) ∧
  ((v.ownBlock=some g∧w.grownBy w' v.ownBlock)∨(g=w.heap.size∧w.grownBy w' none)):=by
 obtain ⟨ht,i,hi,hz0,hz1,hz2⟩:=tc
 have hzc:(Value.agg #[.int .i64 0,.int .i64 0]).cells=#[.int .i64 0,.int .i64 0]:=by rfl
 have hxl:=hown.1
 have big:∀ (old:Nat),old<m+1 →
  (w.drew.alloc (.cells (xs.toArray++[Value.int .i64 y0,.int .i64 y1].toArray++Builtin.zeroCells (Value.agg #[.int .i64 0,.int .i64 0]).cells (grownCap w (m+1) old E-(m+1))) E)).ownsRow B E 2 (.slice (some ⟨w.heap.size,0,none⟩) (m+1) (grownCap w (m+1) old E)) (m+1) (xs++[.int .i64 y0,.int .i64 y1]):=by
  intro old ho
  have hge:=grownCap_ge w (m+1) old E
  have hcm:grownCap w (m+1) old E≤maxLen:=grownCap_le_maxLen w _ old E (by unfold maxLen; omega)
  refine ⟨by simp [hxl]; omega,.inr ⟨w.heap.size,_,_,rfl,hB,heap_alloc_new w.drew _,hge,hcm,?_,?_⟩⟩
  ·simp only [Array.size_append,List.size_toArray,size_zeroCells,hzc,hxl]
   simp
   omega
  ·simp only [Array.toList_append]
   exact List.take_left' (by simp [hxl]; omega)
 have grw:∀ (oo:Obj),w.grownBy (w.drew.alloc oo) none:=fun oo=>⟨rfl,rfl,rfl,by simp,fun k hk _=>Below.heap_alloc w.drew oo k hk⟩
 rcases hown.2 with ⟨rfl,hn⟩ | ⟨g,cap,cur,rfl,hbg,hg,hnc,hcm,hcs,htake⟩
 ·subst hn
  obtain rfl:=List.length_eq_zero_iff.1 (show xs.length=0 by omega)
  have hr:=run_append_nil (P:=Tryz.prog) w T ty E i _ ht hi hz0 ⟨b,0,none⟩ 1 1 [.int .i64 y0,.int .i64 y1] (by rw [hz1]; rfl) hys (by omega) (by omega) (by rw [hz2]; decide)
  have hbg:=big 0 (by omega)
  simp only [List.nil_append,Array.empty_append,Nat.zero_add] at hbg hr
  exact ⟨_,_,_,_,hr,rfl,by simpa using hbg,.inr ⟨rfl,grw _⟩⟩
 ·by_cases hroom:m+1≤cap
  ·have hr:=run_append_room (P:=Tryz.prog) w T ty E i ht hi g m cap cur hg ⟨b,0,none⟩ 1 1 [.int .i64 y0,.int .i64 y1] (by rw [hz1]; rfl) hys (by simp [Value.oneCell']) hroom (by rw [hz1,hcs]; simp; omega)
   refine ⟨_,_,_,_,hr,rfl,⟨by simp [hxl]; omega,.inr ⟨g,cap,_,rfl,hbg,setRow_heap w g cur _ E _ hg,hroom,hcm,?_,?_⟩⟩,.inl ⟨rfl,⟨rfl,rfl,rfl,by simp,fun k _ hk=>setRow_other w g k _ (fun e=>hk (by simp [Value.ownBlock,e]))⟩⟩⟩
   ·simp only [List.size_toArray,List.length_append,List.length_take,List.length_drop,Array.length_toList,hz1,hcs]
    simp
    omega
   ·rw [hz1,htake]
    exact List.take_left' (by simp [hxl]; omega)
  ·have holds:∀ j u,xs[j]?=some u→w.cell? ((⟨g,0,none⟩:Addr).add j)=some u:=World.ownsRow.cells hown (g:=g) rfl
   have hr:=run_append_grow (P:=Tryz.prog) w T ty E i _ ht hi hz0 ⟨g,0,none⟩ m cap xs (by rw [hz1]; exact hxl) holds ⟨b,0,none⟩ 1 1 [.int .i64 y0,.int .i64 y1] (by rw [hz1]; rfl) hys (by omega) (by omega) (by
    rw [hz2]
    exact growslice_fits (by omega) (by
     calc (m+1)*16≤1000000*16:=Nat.mul_le_mul_right _ hlen
      _≤_:=by decide))
   exact ⟨_,_,_,_,hr,rfl,big cap (by omega),.inr ⟨rfl,grw _⟩⟩
theorem wpl_app2 {T E:TypeId} (tc:TwoInts T E) {w:World} {ops:Array Oper} {rest:List Oper} {o:Oper} {a:Act} {Q:Exit→Act→World→Prop} (hgd:o.guard=none) (s x:Operand)
 (ho:o.op=.call { callee:=.builtin .append,args:=#[s,x],argTypes:=#[T,T] })
 (B:Nat) (v:Value) (m:Nat) (xs:List Value) (y0 y1:Int) (b:Nat) (hown:w.ownsRow B E 2 v m xs) (hs:a.eval s=v) (hx:a.eval x=.slice (some ⟨b,0,none⟩) 1 1) (hb:b=w.heap.size)
 (hlen:m<1000000) (hB:B≤w.heap.size)
 (h:∀ g c w',w'.ownsRow B E 2 (.slice (some ⟨g,0,none⟩) (m+1) c) (m+1) (xs++[.int .i64 y0,.int .i64 y1])→((v.ownBlock=some g∧w.grownBy w' v.ownBlock)∨(w.heap.size≤g∧w.grownBy w' none))→wpList Tryz.prog ops Q rest (a.put o.dst (.slice (some ⟨g,0,none⟩) (m+1) c)) w') :
 wpList Tryz.prog ops Q (o::rest) a (w.alloc (.cells #[.int .i64 y0,.int .i64 y1] E)):=by
 subst hb
 refine wpList_plain hgd fun K hK=>?_
 have hcells:∀ (j:Nat) (u:Value),([Value.int .i64 y0,.int .i64 y1]:List Value)[j]?=some u→(w.alloc (.cells #[.int .i64 y0,.int .i64 y1] E)).cell? ((⟨w.heap.size,0,none⟩:Addr).add j)=some u:=by
  intro j u hj
  have hn:=heap_alloc_new w (.cells #[.int .i64 y0,.int .i64 y1] E)
  match j,hj with
  | 0,hj=>simp at hj; subst hj; simp only [World.cell?,Addr.add,if_true]; rw [hn]; rfl
  | 1,hj=>simp at hj; subst hj; simp only [World.cell?,Addr.add,show ¬ (1=0) by decide,if_false]; rw [hn]; rfl
  | j+2,hj=>simp at hj
 obtain ⟨g,n',c',w',hr,rfl,h2,h3⟩:=run_app2 tc (w.alloc (.cells #[.int .i64 y0,.int .i64 y1] E)) B o.type v m xs (World.ownsRow.alloc hown _) w.heap.size y0 y1 hcells hlen (by simp; omega)
 unfold Oper.wp execOp
 simp only [ho,resolve,invoke,builtin,Sem.run_bind,Sem.run_pure,Result.andThen_ok,List.map_toArray,List.map_cons,List.map_nil,hs,hx]
 rw [hr]
 have hal:∀ row,w.grownBy (w.alloc (.cells #[.int .i64 y0,.int .i64 y1] E)) row:=fun row=>World.grownBy_alloc w _ row
 rcases h3 with ⟨hv,hg⟩ | ⟨hk,hg⟩
 ·exact hK _ _ (h g c' w' h2 (.inl ⟨hv,(hal v.ownBlock).trans hg⟩))
 ·exact hK _ _ (h g c' w' h2 (.inr ⟨by rw [hk]; simp,(hal none).trans hg⟩))
def flat2 (l:List (Int×Int)):List Value:=l.flatMap fun p=>[.int .i64 p.1,.int .i64 p.2]
theorem flat2_snoc (l:List (Int×Int)) (a b:Int):flat2 (l++[(a,b)])=flat2 l++[.int .i64 a,.int .i64 b]:=by simp [flat2]
theorem flat2_get (l:List (Int×Int)) (s:Nat) (h:s<l.length):(flat2 l)[s*2]?=some (.int .i64 l[s].1)∧(flat2 l)[s*2+1]?=some (.int .i64 l[s].2):=by
 induction l generalizing s with
 | nil=>simp at h
 | cons p l ih =>
  cases s with
  | zero=>exact ⟨rfl,rfl⟩
  | succ s =>
   have:=ih s (by simpa using h)
   rw [show (s+1)*2=s*2+1+1 by omega]
   simpa [flat2] using this
set_option maxHeartbeats 8000000
def sGraph:ByteArray:=⟨#[103,114,97,112,104]⟩
def oddT (n:Nat) (t:Int):Bool:=decide (t<0)||decide ((n:Int)≤t)
def arrowsTo (G:List (List Int)):Nat→Nat
 | 0=>0
 | k+1=>arrowsTo G k+(G.getD k []).length
def oddTo (G:List (List Int)):Nat→Int
 | 0=>-1
 | k+1=>if oddTo G k<0 then (if 0≤idxOf (oddT G.length) (G.getD k []) then (k:Int) else oddTo G k) else oddTo G k
def checkG (G:List (List Int)):PErr :=
 if 8192<G.length then fresh sGraph 0 4
 else if 262144<arrowsTo G G.length then fresh sGraph 1 4
 else if 0≤oddTo G G.length then fresh sGraph (oddTo G G.length) 1
 else none
theorem arrowsTo_mono (G:List (List Int)) {k l:Nat} (h:k≤l):arrowsTo G k≤arrowsTo G l:=by
 induction l with
 | zero=>obtain rfl:k=0:=by omega
         exact Nat.le_refl _
 | succ l ih =>
  by_cases e:k=l+1
  ·subst e; exact Nat.le_refl _
  ·have:=ih (by omega); simp only [arrowsTo]; omega
theorem oddTo_neg (G:List (List Int)):∀ k,oddTo G k<0→∀ v,v<k→∀ t∈G.getD v [],oddT G.length t=false
 | 0,_,v,hv=>by omega
 | k+1,h,v,hv=>by
  simp only [oddTo] at h
  by_cases hk:oddTo G k<0
  ·rw [if_pos hk] at h
   by_cases hj:0≤idxOf (oddT G.length) (G.getD k [])
   ·rw [if_pos hj] at h; omega
   ·by_cases e:v=k
    ·subst e
     intro t ht
     rcases idxOf_cases (oddT G.length) (G.getD v []) with ⟨_,q⟩ | ⟨i,q,_⟩
     ·exact q t ht
     ·omega
    ·exact oddTo_neg G k hk v (by omega)
  ·rw [if_neg hk] at h; exact absurd h hk
theorem checkG_none {G:List (List Int)} (h:checkG G=none):G.length≤8192∧arrowsTo G G.length≤262144∧GraphOk G:=by
 unfold checkG at h
 by_cases h1:8192<G.length
 ·rw [if_pos h1] at h; cases h
 rw [if_neg h1] at h
 by_cases h2:262144<arrowsTo G G.length
 ·rw [if_pos h2] at h; cases h
 rw [if_neg h2] at h
 by_cases h3:0≤oddTo G G.length
 ·rw [if_pos h3] at h; cases h
 refine ⟨by omega,by omega,fun v hv t ht=>?_⟩
 have:=oddTo_neg G G.length (by omega) v hv t ht
 simp [oddT] at this
 omega
theorem graph_wrong (r:Nat→Addr) (at_ n:Int) (w:World) (hg:Glob r w) (h1:1≤n) (h2:n≤11) :
 Calls Tryz.prog 342 #[.int .i64 at_,.int .i64 n] w (Ret1 (fun v w'=>ErrIs r w' (fresh sGraph at_ n) v) w):=by
 go_enter Tryz.func342,Tryz.ntmps342
 go_wp2_with fail
 refine (new_any r _ at_ n w hg h1 h2).mono ?_
 rintro e w' ⟨v,rfl,hb,he⟩
 go_wp2
 go_ret
 exact ⟨_,rfl,hb,he⟩
theorem check1_any (x:Int) (na:Option Addr) (n nc:Nat) (b:Addr) (w:World) (hb:w.cell? b=some (.slice na n nc)) :
 Calls Tryz.prog 375 #[.int .i64 x,.pointer (some b)] w fun e w'=>e=.returned (.bool (oddT n x))∧w=w':=by
 by_cases h:x<0
 ·have e:oddT n x=true:=by simp [oddT,h]
  rw [e]
  go_enter Tryz.func375,Tryz.ntmps375
  go_wp2
  go_ret
  exact ⟨rfl,rfl⟩
 ·have e:oddT n x=decide ((n:Int)≤x):=by simp [oddT,h]
  rw [e]
  go_enter Tryz.func375,Tryz.ntmps375
  go_wp2
  go_ret
  exact ⟨ret_bool (by simp),rfl⟩
theorem eg_check1 (args:Array Value) (w:World):(callFunc 375 args).run Tryz.prog w=.ok (.enter 375 args) w:=by kernel_rfl
theorem containsFunc_any (v b:Value) (F:Nat) (xs:List Int) (p:Int→Bool) (w:World) (h:IntsAt w v xs)
 (eg:∀ args w,(callFunc F args).run Tryz.prog w=.ok (.enter F args) w)
 (hF:∀ x:Int,x∈xs→Calls Tryz.prog F #[.int .i64 x,b] w fun e w'=>e=.returned (.bool (p x))∧w=w') :
 Calls Tryz.prog 278 #[v,.func (.func F) #[] #[b]] w fun e w'=>e=.returned (.bool (decide (0≤idxOf p xs)))∧w=w':=by
 have hI:=indexFunc_any v b F xs p w h eg hF
 clear hF eg
 go_enter Tryz.func278,Tryz.ntmps278
 go_wp2_with fail
 refine hI.mono ?_
 rintro e w' ⟨rfl,rfl⟩
 go_wp2
 go_ret
 exact ⟨ret_bool (by simp),rfl⟩
theorem graph_check (r:Nat→Addr) (na:Option Addr) (nc:Nat) (G:List (List Int)) (w:World) (hg:Glob r w) (h:ListsAt w (.slice na G.length nc) G) (hsz:∀ k,k<G.length→(G.getD k []).length≤17592186044416) :
 Calls Tryz.prog 341 #[.slice na G.length nc] w (Ret1 (fun v w'=>ErrIs r w' (checkG G) v) w):=by
 have b0:Below w.heap.size w (w.alloc (.cells #[.slice na G.length nc] 178)):=(Below.refl _ _).alloc (Nat.le_refl _) _
 obtain ⟨w0,hw0⟩:∃ w0,w0=w.alloc (.cells #[.slice na G.length nc] 178):=⟨_,rfl⟩
 have c0:w0.cell? ⟨w.heap.size,0,none⟩=some (.slice na G.length nc):=by simp [hw0,go_sem]
 rw [← hw0] at b0
 replace hsz:=Hd hsz
 replace hg:=Hd (hg.below b0)
 replace h:=Hd (h.below b0)
 have hn63:G.length≤9223372036854775807:=by
  obtain ⟨vs,h1,h2,_⟩:=h.out
  have:=h1.len_le; omega
 by_cases hbig:8192<G.length
 ·have hp:checkG G=fresh sGraph 0 4:=by unfold checkG; rw [if_pos hbig]
  rw [hp]
  replace hp:=Hd hp
  go_enter Tryz.func341,Tryz.ntmps341
  go_wp2_with fail
  rw [← hw0]
  clear hw0
  refine (graph_wrong r _ _ _ hg.out (by decide) (by decide)).mono ?_
  rintro e w' ⟨v,rfl,hb,he⟩
  replace he:=Hd he
  go_wp2
  go_ret
  exact ⟨_,rfl,Below.step b0 hb,he.out⟩
 ·have hpure:∀ k,k≤G.length→262144<arrowsTo G k→checkG G=fresh sGraph 1 4:=fun k hk hq=>by
   unfold checkG
   rw [if_neg hbig,if_pos (by have:=arrowsTo_mono G hk; omega)]
  have hend:arrowsTo G G.length≤262144→checkG G=if 0≤oddTo G G.length then fresh sGraph (oddTo G G.length) 1 else none:=fun hq=>by
   unfold checkG
   rw [if_neg hbig,if_neg (by omega)]
  replace hpure:=Hd hpure
  replace hend:=Hd hend
  have hgt:decide ((G.length:Int)>8192)=false:=by simp; omega
  go_enter Tryz.func341,Tryz.ntmps341
  go_upto_if 9 with fail
  rw [← hw0]
  clear hw0
  go_wp2_with fail
  go_loopw [3,4,13] (fun a o i wr=>∃ k n:Nat,k≤G.length∧i=.int .i64 k∧a=.int .i64 (arrowsTo G k)∧o=.int .i64 (oddTo G k)∧arrowsTo G k≤262144∧wr=w0.drewN n) (fun _ _ i _=>G.length-(intOf i).toNat)
  case atStart=>exact ⟨0,0,by omega,rfl,rfl,rfl,by simp [arrowsTo],rfl⟩
  case round =>
   obtain ⟨k,q,hk,rfl,rfl,rfl,hle,rfl⟩:=hrel
   by_cases hlt:k<G.length
   ·obtain ⟨mv,iR,cR,hM⟩:=h.out.row k hlt
    have hll:=hsz.out k hlt
    have ha1:arrowsTo G (k+1)=arrowsTo G k+(G.getD k []).length:=rfl
    have ho1:oddTo G (k+1)=if oddTo G k<0 then (if 0≤idxOf (oddT G.length) (G.getD k []) then (k:Int) else oddTo G k) else oddTo G k:=rfl
    generalize G.getD k []=gk at *
    have lenM:=hM.len
    replace hM:=Hd hM
    by_cases hov:262144<arrowsTo G k+gk.length
    ·have hp:=hpure.out (k+1) (by omega) (by omega)
     replace hp:=Hd hp
     replace ho1:=Hd ho1
     replace ha1:=Hd ha1
     go_wp2_with fail
     refine (graph_wrong r _ _ _ (hg.out.below (below_drewN (Below.refl _ _) q)) (by decide) (by decide)).mono ?_
     rintro e w' ⟨v,rfl,hb,he⟩
     replace he:=Hd he
     go_wp2
     go_ret
     exact ⟨_,rfl,Below.step b0 (Below.step (below_drewN (Below.refl _ _) q) hb),by rw [hp.out]; exact he.out⟩
    ·by_cases hod:oddTo G k<0
     ·rw [if_pos hod] at ho1
      have hcf:=Hd (containsFunc_any mv (.pointer (some ⟨w.heap.size,0,none⟩)) 375 gk (oddT G.length) (w0.drewN q) (hM.out.drewN q) eg_check1 (fun x _=>check1_any x na G.length nc _ _ c0))
      by_cases hx:0≤idxOf (oddT G.length) gk
      ·rw [if_pos hx] at ho1
       replace ho1:=Hd ho1
       replace ha1:=Hd ha1
       go_wp2_with fail
       refine hcf.out.mono ?_
       rintro e w' ⟨rfl,rfl⟩
       rw [show decide (0≤idxOf (oddT G.length) gk)=true by simpa using hx]
       replace hx:=Hd hx
       go_wp2
       go_round
       case measure=>simp [intOf]; omega
       case rel=>exact ⟨k+1,_,by omega,by go_num,by rw [ha1.out]; go_num,by rw [ho1.out],by rw [ha1.out]; omega,rfl⟩
      ·rw [if_neg hx] at ho1
       replace ho1:=Hd ho1
       replace ha1:=Hd ha1
       go_wp2_with fail
       refine hcf.out.mono ?_
       rintro e w' ⟨rfl,rfl⟩
       rw [show decide (0≤idxOf (oddT G.length) gk)=false by simpa using hx]
       replace hx:=Hd hx
       go_wp2
       go_round
       case measure=>simp [intOf]; omega
       case rel=>exact ⟨k+1,_,by omega,by go_num,by rw [ha1.out]; go_num,by rw [ho1.out],by rw [ha1.out]; omega,rfl⟩
     ·rw [if_neg hod] at ho1
      replace ho1:=Hd ho1
      replace ha1:=Hd ha1
      go_wp2
      go_round
      case measure=>simp [intOf]; omega
      case rel=>exact ⟨k+1,_,by omega,by go_num,by rw [ha1.out]; go_num,by rw [ho1.out],by rw [ha1.out]; omega,rfl⟩
   ·obtain rfl:k=G.length:=by omega
    have hp:=hend.out hle
    by_cases hod:0≤oddTo G G.length
    ·rw [if_pos hod] at hp
     replace hp:=Hd hp
     go_wp2_with fail
     refine (graph_wrong r _ _ _ (hg.out.below (below_drewN (Below.refl _ _) q)) (by decide) (by decide)).mono ?_
     rintro e w' ⟨v,rfl,hb,he⟩
     replace he:=Hd he
     go_wp2
     go_ret
     exact ⟨_,rfl,Below.step b0 (Below.step (below_drewN (Below.refl _ _) q) hb),by rw [hp.out]; exact he.out⟩
    ·rw [if_neg hod] at hp
     replace hp:=Hd hp
     go_wp2
     go_ret
     exact ⟨_,rfl,Below.step b0 (below_drewN (Below.refl _ _) q),by rw [hp.out]; rfl⟩
def BackTo (G:List (List Int)) (k j:Nat) (F:Nat→List Int):Prop :=
 ∀ t,t<G.length→((F t).length≤arrowsTo G k+j∧∀ y:Int,y∈F t↔∃ v:Nat,y=v∧(v<k∧(t:Int)∈G.getD v []∨v=k∧(t:Int)∈(G.getD k []).take j))
theorem BackTo.zero (G:List (List Int)):BackTo G 0 0 (fun _=>[]):=by
 intro t _
 refine ⟨Nat.zero_le _,fun y=>⟨fun h=>(by cases h),fun ⟨v,_,h⟩=>?_⟩⟩
 rcases h with ⟨h,_⟩ | ⟨_,h⟩
 ·omega
 ·simp at h
theorem BackTo.next {G:List (List Int)} {k:Nat} {F:Nat→List Int} (h:BackTo G k (G.getD k []).length F):BackTo G (k+1) 0 F:=by
 intro t ht
 obtain ⟨h1,h2⟩:=h t ht
 refine ⟨by simpa [arrowsTo] using h1,fun y=>?_⟩
 rw [h2 y]
 constructor
 ·rintro ⟨v,hv,h⟩
  refine ⟨v,hv,.inl ?_⟩
  rcases h with ⟨a,b⟩ | ⟨rfl,b⟩
  ·exact ⟨by omega,b⟩
  ·rw [List.take_length] at b; exact ⟨by omega,b⟩
 ·rintro ⟨v,hv,h⟩
  rcases h with ⟨a,b⟩ | ⟨_,b⟩
  ·refine ⟨v,hv,?_⟩
   by_cases e:v=k
   ·subst e; exact .inr ⟨rfl,by rw [List.take_length]; exact b⟩
   ·exact .inl ⟨by omega,b⟩
  ·simp at b
theorem BackTo.add {G:List (List Int)} {k j u:Nat} {F:Nat→List Int} (h:BackTo G k j F) (hj:(G.getD k [])[j]?=some (u:Int)):BackTo G k (j+1) (updN F u (F u++[(k:Int)])):=by
 have hjl:j<(G.getD k []).length:=by
  by_cases q:j<(G.getD k []).length
  ·exact q
  ·rw [List.getElem?_eq_none (by omega)] at hj; cases hj
 have htk:(G.getD k []).take (j+1)=(G.getD k []).take j++[(u:Int)]:=by
  rw [List.take_add_one,hj]; rfl
 intro t ht
 obtain ⟨h1,h2⟩:=h t ht
 by_cases e:t=u
 ·subst e
  rw [updN_same]
  refine ⟨by rw [List.length_append]; simp only [List.length_cons,List.length_nil]; omega,fun y=>?_⟩
  rw [List.mem_append,h2 y,htk]
  simp only [List.mem_singleton,List.mem_append]
  constructor
  ·rintro (⟨v,hv,h⟩ | rfl)
   ·refine ⟨v,hv,?_⟩
    rcases h with h | ⟨a,b⟩
    ·exact .inl h
    ·exact .inr ⟨a,.inl b⟩
   ·exact ⟨k,rfl,.inr ⟨rfl,.inr (by simp)⟩⟩
  ·rintro ⟨v,hv,h⟩
   rcases h with h | ⟨a,b | b⟩
   ·exact .inl ⟨v,hv,.inl h⟩
   ·exact .inl ⟨v,hv,.inr ⟨a,b⟩⟩
   ·right; rw [hv,a]
 ·rw [updN_other _ _ _ e]
  refine ⟨by omega,fun y=>?_⟩
  rw [h2 y,htk]
  simp only [List.mem_append,List.mem_singleton]
  constructor
  ·rintro ⟨v,hv,h⟩
   refine ⟨v,hv,?_⟩
   rcases h with h | ⟨a,b⟩
   ·exact .inl h
   ·exact .inr ⟨a,.inl b⟩
  ·rintro ⟨v,hv,h⟩
   refine ⟨v,hv,?_⟩
   rcases h with h | ⟨a,b | b⟩
   ·exact .inl h
   ·exact .inr ⟨a,b⟩
   ·exact absurd (by omega) e
def TurnedOf (G H:List (List Int)):Prop:=H.length=G.length∧(∀ t,t<G.length→(H.getD t []).length≤arrowsTo G G.length)∧∀ t,t<G.length→∀ y:Int,y∈H.getD t []↔∃ v:Nat,y=v∧v<G.length∧(t:Int)∈G.getD v []
theorem BackTo.turned {G:List (List Int)} {F:Nat→List Int} (h:BackTo G G.length 0 F):TurnedOf G (rowsOf G.length F):=by
 refine ⟨rowsOf_len _ _,fun t ht=>?_,fun t ht y=>?_⟩
 ·rw [rowsOf_get _ _ _ ht]; simpa using (h t ht).1
 ·rw [rowsOf_get _ _ _ ht,(h t ht).2 y]
  constructor
  ·rintro ⟨v,hv,h⟩
   rcases h with h | ⟨_,h⟩
   ·exact ⟨v,hv,h.1,h.2⟩
   ·simp at h
  ·rintro ⟨v,hv,h⟩
   exact ⟨v,hv,.inl h⟩
theorem graph_back (na:Option Addr) (nc:Nat) (G:List (List Int)) (w:World) (h:ListsAt w (.slice na G.length nc) G) (hok:GraphOk G) (hn:G.length≤8200) (harr:arrowsTo G G.length≤262144) :
 Calls Tryz.prog 339 #[.slice na G.length nc] w (Ret1 (fun x w'=>∃ H,TurnedOf G H∧ListsAt w' x H) w):=by
 obtain ⟨ov,w1,mk,ho,hb1⟩:=run_makeW oneLists (G.length:Int) G.length w rfl (by omega)
 obtain ⟨f1,hr1,h1⟩:=WN.made G.length hb1 (Nat.le_refl _) ho
 obtain ⟨oa,on,oc,rfl⟩:=ho.shape
 have hlen:∀ k,k<G.length→(G.getD k []).length≤262144:=fun k hk=>by
  have:=arrowsTo_mono G (show k+1≤G.length by omega)
  simp only [arrowsTo] at this; omega
 replace h:=Hd h
 replace hok:=Hd hok
 replace hr1:=Hd hr1
 replace ho:=Hd ho
 replace hlen:=Hd hlen
 go_enter Tryz.func339,Tryz.ntmps339
 go_wp2_with fail
 clear mk
 go_loopw [13] (fun kv wr=>∃ (k:Nat) (F:Nat→List Int) (f:Names) (vals:List Value),k≤G.length∧kv=.int .i64 k∧Rows w.heap.size wr f∧Below w.heap.size w wr∧WN f (.slice oa on oc) vals G.length F∧BackTo G k 0 F) (fun kv _=>G.length-(intOf kv).toNat)
 case atStart=>exact ⟨0,_,f1,_,by omega,rfl,hr1.out,hb1,h1,BackTo.zero G⟩
 case round =>
  clear h1 ho hr1
  obtain ⟨k,F,f2,vals,hk,rfl,hr2,b2,h2,hB⟩:=hrel
  obtain ⟨wo,rfl⟩:∃ wo:World,wo=wr:=⟨_,rfl⟩
  by_cases hlt:k<G.length
  ·obtain ⟨mv,iR,cR0,hM0⟩:=h.out.row k hlt
   have cR:=(b2.cell (World.block_lt_of_cell? _ _ cR0)).trans cR0
   clear cR0
   have hM:=hM0.below b2
   have hgl:=hlen.out k hlt
   have hgp:=hok.out k hlt
   have hBadd:=fun (j u:Nat) (F:Nat→List Int) (h:BackTo G k j F)=>h.add (u:=u)
   have hBnext:=fun (F:Nat→List Int) (h:BackTo G k (G.getD k []).length F)=>h.next
   have hBlen:=fun (j t:Nat) (F:Nat→List Int) (h:BackTo G k j F) (ht:t<G.length)=>(h t ht).1
   have harrk:=arrowsTo_mono G hk
   generalize G.getD k []=gk at *
   have lM:=hM.len
   generalize valAt (.slice na G.length nc) k=ra at *
   replace hB:=Hd hB
   replace hBadd:=Hd hBadd
   replace hBnext:=Hd hBnext
   replace hBlen:=Hd hBlen
   replace hgp:=Hd hgp
   replace hr2:=Hd hr2
   replace hM:=Hd hM
   replace hM0:=Hd hM0
   go_wp2_with fail
   clear iR cR lM
   go_loopw [20] (fun jv wr=>∃ (j:Nat) (F:Nat→List Int) (f:Names) (vals:List Value),j≤gk.length∧jv=.int .i64 j∧Rows w.heap.size wr f∧Below w.heap.size w wr∧WN f (.slice oa on oc) vals G.length F∧BackTo G k j F) (fun jv _=>gk.length-(intOf jv).toNat)
   case atStart=>exact ⟨0,F,f2,vals,by omega,rfl,hr2.out,b2,h2,hB.out⟩
   case round =>
    clear hB hr2 h2 b2 hM
    obtain ⟨j,F,f3,vals,hj,rfl,hr3,b3,h3,hB⟩:=hrel
    obtain ⟨wo,rfl⟩:∃ wo:World,wo=wr:=⟨_,rfl⟩
    by_cases hjl:j<gk.length
    ·have hMj:=hM0.out.below b3
     have hgj:=hgp.out gk[j] (List.getElem_mem hjl)
     obtain ⟨u,hu⟩:∃ u:Nat,gk[j]=u:=Int.eq_ofNat_of_zero_le hgj.1
     have hun:u<G.length:=by rw [hu] at hgj; omega
     have hgu:gk[j]?=some (u:Int):=by rw [List.getElem?_eq_getElem hjl,hu]
     have hgd:gk.getD j 0=(u:Int):=by rw [List.getD_eq_getElem?_getD,hgu]; rfl
     have iJ:=fun w'=>hMj.idx j hjl w'
     have cJ:=hMj.cellD j hjl
     rw [hgd] at cJ
     have hadd:=hBadd.out j u F hB hgu
     have hfl:=hBlen.out j u F hB hun
     have hOV:=(hr3.ownV h3.outer).at
     have iO:=fun w'=>hOV.idx oneLists u (by rw [h3.len]; exact hun) w'
     have cO:=hOV.cellV u (by rw [h3.len]; exact hun)
     have hT:=hr3.ownI (h3.rows u hun)
     have happ:=fun (w1:World) (v':Value)=>h3.app hr3 hun (w1:=w1) (v':=v') (k:Int)
     have hput:=fun (w1:World) (v':Value) (xs:List Int)=>h3.put (B:=w.heap.size) (w1:=w1) hun (v':=v') (xs:=xs)
     have hB3:w.heap.size≤wo.heap.size:=b3.size
     generalize valAt mv j=ja at *
     generalize vAt vals u=tv at *
     generalize valAt (.slice oa on oc) u=ua at *
     replace hadd:=Hd hadd
     replace happ:=Hd happ
     replace hput:=Hd hput
     replace hB:=Hd hB
     replace hr3:=Hd hr3
     replace hOV:=Hd hOV
     replace hgu:=Hd hgu
     replace hgd:=Hd hgd
     replace hu:=Hd hu
     replace hgj:=Hd hgj
     go_wp2_with (at_builtin; refine wpl_app1 rfl _ _ rfl w.heap.size tv (F u) k hT rfl rfl (by omega) hB3 ?_)
     intro v' w7 ho7 b7 hal7
     have hR7:=happ.out w7 v' ho7 hal7
     obtain ⟨y1,y2,y3,f8,hr8,h8,_⟩:=hput.out w7 v' _ hR7
     obtain ⟨va,vn,vc,rfl⟩:=ho7.at.shape
     replace hr8:=Hd hr8
     replace ho7:=Hd ho7
     replace hR7:=Hd hR7
     clear hal7 hT iJ cJ cO
     go_wp2
     go_roundw
     case measure=>simp [intOf]; omega
     case rel=>exact ⟨j+1,_,f8,_,by omega,by go_num,hr8.out,(b3.trans b7).setCell y3 _,h8,hadd.out⟩
    ·obtain rfl:j=gk.length:=by omega
     have hnext:=hBnext.out F hB
     replace hnext:=Hd hnext
     replace hB:=Hd hB
     replace hr3:=Hd hr3
     go_wp2
     go_roundw
     case measure=>simp [intOf]; omega
     case rel=>exact ⟨k+1,F,f3,vals,by omega,by go_num,hr3.out,b3,h3,hnext.out⟩
  ·obtain rfl:k=G.length:=by omega
   have hT:=hB.turned
   have hL:=h2.lists hr2
   replace hB:=Hd hB
   replace hT:=Hd hT
   replace hL:=Hd hL
   replace hr2:=Hd hr2
   go_wp2
   go_ret
   exact ⟨_,rfl,b2,_,hT.out,hL.out⟩
def arrL (K N:Nat) (T:List Int) (u n:Nat):List (Int×Int):=(List.range n).map fun s=>((toN K N u s:Int),labN K T u s)
theorem arrL_len (K N:Nat) (T:List Int) (u n:Nat):(arrL K N T u n).length=n:=by simp [arrL]
theorem arrL_succ (K N:Nat) (T:List Int) (u n:Nat):arrL K N T u (n+1)=arrL K N T u n++[((toN K N u n:Int),labN K T u n)]:=by simp [arrL,List.range_succ]
def arrTo (K N:Nat) (T:List Int) (k j:Nat) (u:Nat):List (Int×Int):=if u<k then arrL K N T u K else if u=k then arrL K N T u j else []
theorem arrTo_zero (K N:Nat) (T:List Int):arrTo K N T 0 0=fun _=>[]:=by
 funext u; unfold arrTo
 rw [if_neg (by omega)]
 split
 ·simp [arrL]
 ·rfl
theorem arrTo_next (K N:Nat) (T:List Int) (k:Nat):arrTo K N T k K=arrTo K N T (k+1) 0:=by
 funext u; unfold arrTo
 by_cases h:u<k
 ·rw [if_pos h,if_pos (by omega)]
 ·rw [if_neg h]
  by_cases e:u=k
  ·rw [if_pos e,if_pos (by omega)]
  ·rw [if_neg e,if_neg (by omega)]
   split
   ·simp [arrL]
   ·rfl
theorem arrTo_at (K N:Nat) (T:List Int) (k j:Nat):arrTo K N T k j k=arrL K N T k j:=by unfold arrTo; rw [if_neg (by omega),if_pos rfl]
theorem arrTo_step (K N:Nat) (T:List Int) (k j:Nat):updN (arrTo K N T k j) k (arrL K N T k (j+1))=arrTo K N T k (j+1):=by
 funext u
 by_cases e:u=k
 ·subst e; rw [updN_same,arrTo_at]
 ·rw [updN_other _ _ _ e]; unfold arrTo
  by_cases h:u<k
  ·rw [if_pos h,if_pos h]
  ·rw [if_neg h,if_neg h,if_neg e,if_neg e]
theorem twoArrow:TwoInts 340 342:=twoInts_mk (by kernel_rfl) (by kernel_rfl)
theorem oneArrows:OneCell 338 340 (.slice none 0 0) 24:=⟨by kernel_rfl,by kernel_rfl,rfl,by decide,fun _=>by kernel_rfl⟩
structure AN (f:Names) (ov:Value) (vals:List Value) (n:Nat) (F:Nat→List (Int×Int)):Prop where
 outer:f (1,0)=some (rowV 340 ov vals)
 len:vals.length=n
 rows:∀ u,u<n→f (2,u)=some ⟨342,2,vAt vals u,(F u).length,flat2 (F u)⟩
section
variable {B:Nat} {w:World} {f:Names} {ov:Value} {vals:List Value} {n:Nat} {F:Nat→List (Int×Int)}
def nils2 (n:Nat):Names:=fun i=>if i.1=2∧i.2<n then some ⟨342,2,.slice none 0 0,0,[]⟩ else none
theorem rows_nils2 (B:Nat) (w:World) (n:Nat):Rows B w (nils2 n):=by
 refine ⟨fun i r hi=>?_,fun i j r s hi _ _=>?_⟩
 ·unfold nils2 at hi
  split at hi
  ·injection hi with hi; subst hi; exact World.ownsRow_nil w B _ 2
  ·cases hi
 ·left
  unfold nils2 at hi
  split at hi
  ·injection hi with hi; subst hi; rfl
  ·cases hi
theorem AN.made {w1:World} (n:Nat) (hb:Below w.heap.size w w1) (hB:B≤w.heap.size) (ho:OwnV 340 w.heap.size w1 ov (List.replicate n (.slice none 0 0))) :
 ∃ f,Rows B w1 f∧AN f ov (List.replicate n (.slice none 0 0)) n (fun _=>[]):=by
 refine ⟨_,(rows_nils2 B w n).add (i:=(1,0)) (r':=rowV 340 ov (List.replicate n (.slice none 0 0))) hb (ho.mono hB) (fun k hk=>(ho.lt k hk).1),⟨upd_same _ _ _,by simp,fun u hu=>?_⟩⟩
 rw [upd_ne _ _ (by simp)]
 show nils2 n (2,u)=_
 unfold nils2
 rw [if_pos ⟨rfl,hu⟩]
 simp [vAt,List.getD,hu,flat2]
theorem AN.app (h:AN f ov vals n F) (hr:Rows B w f) {w1:World} {u g c:Nat} (hu:u<n) (x y:Int)
 (ho:w1.ownsRow B 342 2 (.slice (some ⟨g,0,none⟩) ((F u).length+1) c) ((F u).length+1) (flat2 (F u)++[.int .i64 x,.int .i64 y]))
 (hal:((vAt vals u).ownBlock=some g∧w.grownBy w1 (vAt vals u).ownBlock)∨(w.heap.size≤g∧w.grownBy w1 none)) :
 w1.cell? (valAt ov u)=some (vAt vals u)∧w1.frozen? (valAt ov u)=false∧B≤(valAt ov u).block ∧
 ∃ f' vals',Rows B (w1.setCell (valAt ov u) (.slice (some ⟨g,0,none⟩) ((F u).length+1) c)) f'∧AN f' ov vals' n (updN F u (F u++[(x,y)])):=by
 have hrow:=h.rows u hu
 have hg:w.grownBy w1 (vAt vals u).ownBlock:=grown_via (hal.imp (·.2) (·.2))
 have hob:(Value.slice (some ⟨g,0,none⟩) ((F u).length+1) c).ownBlock=(vAt vals u).ownBlock∨∃ k,(Value.slice (some ⟨g,0,none⟩) ((F u).length+1) c).ownBlock=some k∧w.heap.size≤k:=by
  rcases hal with ⟨q,_⟩ | ⟨q,_⟩
  ·exact .inl q.symm
  ·exact .inr ⟨g,rfl,q⟩
 have h1:=hr.grown (r':=⟨342,2,.slice (some ⟨g,0,none⟩) ((F u).length+1) c,(F u).length+1,flat2 (F u)++[Value.int .i64 x,Value.int .i64 y]⟩) hrow hg (show Row.own B w1 ⟨_,_,_,_,_⟩ from ho) hob
 have ho':upd f (2,u) (some ⟨342,2,.slice (some ⟨g,0,none⟩) ((F u).length+1) c,(F u).length+1,flat2 (F u)++[Value.int .i64 x,Value.int .i64 y]⟩) (1,0)=some (rowV 340 ov vals):=by rw [upd_ne _ _ (by simp)]; exact h.outer
 have hl:u<vals.length:=by rw [h.len]; exact hu
 have hO:=h1.ownV ho'
 refine ⟨hO.at.cellV u hl,hO.frz u hl,(hO.blkB u hl).2,_,_,h1.setV ho' u hl _,⟨upd_same _ _ _,by simpa using h.len,fun t ht=>?_⟩⟩
 rw [upd_ne _ _ (by simp)]
 by_cases e:t=u
 ·subst e
  rw [upd_same,vAt_set_same hl,updN_same,flat2_snoc]; simp
 ·rw [upd_ne _ _ (by simpa using e),vAt_set_ne e,updN_other _ _ _ e]
  exact h.rows t ht
end
def ArrowsAt (w:World) (v:Value) (K N:Nat) (T:List Int):Prop :=
 ∃ vs,ValsAt w v vs∧vs.length=N∧∀ u,u<N→∃ g c,vAt vs u=.slice (some ⟨g,0,none⟩) K c∧K≤c∧∀ s,s<K→w.cell? ⟨g,s*2,none⟩=some (.int .i64 (toN K N u s))∧w.cell? ⟨g,s*2+1,none⟩=some (.int .i64 (labN K T u s))
theorem ArrowsAt.below {w w':World} {v:Value} {K N:Nat} {T:List Int} (h:ArrowsAt w v K N T) (hb:Below w.heap.size w w'):ArrowsAt w' v K N T:=by
 obtain ⟨vs,h1,h2,h3⟩:=h
 refine ⟨vs,h1.below hb,h2,fun u hu=>?_⟩
 obtain ⟨g,c,e,hc,h4⟩:=h3 u hu
 exact ⟨g,c,e,hc,fun s hs=>⟨cell_keep hb (h4 s hs).1,cell_keep hb (h4 s hs).2⟩⟩
theorem AN.reads {B:Nat} {w:World} {f:Names} {ov:Value} {vals:List Value} {K N:Nat} {T:List Int} (hK:1≤K) (h:AN f ov vals N (arrTo K N T N 0)) (hr:Rows B w f):ArrowsAt w ov K N T:=by
 refine ⟨vals,(hr.ownV h.outer).at,h.len,fun u hu=>?_⟩
 have hrow:=h.rows u hu
 have hF:arrTo K N T N 0 u=arrL K N T u K:=by unfold arrTo; rw [if_pos hu]
 rw [hF,arrL_len] at hrow
 obtain ⟨g,c,e,hc⟩:=row_shape (hr.1 _ _ hrow) hK
 refine ⟨g,c,e,hc,fun s hs=>?_⟩
 have c0:=hr.cell hrow (g:=g) (cap:=c) e (s*2) (by simp; omega)
 have c1:=hr.cell hrow (g:=g) (cap:=c) e (s*2+1) (by simp; omega)
 have:=flat2_get (arrL K N T u K) s (by rw [arrL_len]; exact hs)
 have ea:(arrL K N T u K)[s]'(by rw [arrL_len]; exact hs)=((toN K N u s:Int),labN K T u s):=by simp [arrL]
 rw [ea] at this
 exact ⟨c0.trans this.1,c1.trans this.2⟩
theorem arrows_any (r:Nat→Addr) (K R:Nat) (va:Option Addr) (vn vc:Nat) (T:List Int) (w:World) (hg:Glob r w) (h:IntsAt w (.slice va vn vc) T) (hok:RuleOk K R T) (hl:T.length≤256) :
 Calls Tryz.prog 264 #[.agg #[.int .i64 K,.int .i64 R,.slice va vn vc]] w (Ret1 (fun x w'=>ArrowsAt w' x K (T.length/K) T) w):=by
 have b0:=belowAlloc w (.cells #[.int .i64 K,.int .i64 R,.slice va vn vc] 124)
 have q:Box3 (w.alloc (.cells #[.int .i64 K,.int .i64 R,.slice va vn vc] 124)) w.heap.size (.int .i64 K) (.int .i64 R) (.slice va vn vc):=by simp [Box3,go_sem]
 have hk1:=hok.k1
 have hk4:=hok.k4
 have hN0:T.length/K≤256:=Nat.le_trans (Nat.div_le_self _ _) hl
 have hEdge:=fun (u s:Nat) (w':World) (hgl:Glob r w') (hT:IntsAt w' (.slice va vn vc) T) (hu:u<T.length/K) (hs:s<K)=>over_Edge r K R va vn vc T u s w' hgl hT hok hl hu hs
 have hNodes:=fun (w':World) (hgl:Glob r w') (hT:IntsAt w' (.slice va vn vc) T)=>over_Nodes r K R va vn vc T w' hgl hT hok hl
 generalize T.length/K=N at *
 replace hEdge:=Hd hEdge
 replace hNodes:=Hd hNodes
 replace hg:=Hd (hg.below b0)
 replace h:=Hd (h.below b0)
 replace hok:=Hd hok
 go_enter Tryz.func264,Tryz.ntmps264
 go_wp2_with fail
 refine (hNodes.out _ hg.out h.out).mono ?_
 rintro e w1 ⟨x,y,rfl,b1,rfl,rfl⟩
 have q1:=q.below b1
 have b01:=Below.step b0 b1
 have hg1:=hg.out.below b1
 have hT1:=h.out.below b1
 clear q
 go_wp2_with fail
 obtain ⟨ov,w2,mk,ho,hb2⟩:=run_makeW oneArrows (N:Int) N w1 rfl (by omega)
 obtain ⟨f1,hr1,h1⟩:=AN.made N hb2 (Nat.le_refl _) ho
 obtain ⟨oa,on,oc,rfl⟩:=ho.shape
 have lo:=fun w'=>(ho.at).len oneArrows 3 w'
 rw [List.length_replicate] at lo
 rw [mk]
 simp only [Result.andThen]
 rw [← arrTo_zero K N T] at h1
 replace hr1:=Hd hr1
 replace ho:=Hd ho
 replace q1:=Hd q1
 replace hg1:=Hd hg1
 replace hT1:=Hd hT1
 clear mk
 go_wp2_with fail
 clear lo
 go_loopw [20] (fun kv wr=>∃ (k:Nat) (f:Names) (vals:List Value),k≤N∧kv=.int .i64 k∧Rows w1.heap.size wr f∧Below w1.heap.size w1 wr∧AN f (.slice oa on oc) vals N (arrTo K N T k 0)) (fun kv _=>N-(intOf kv).toNat)
 case atStart=>exact ⟨0,f1,_,by omega,rfl,hr1.out,hb2,h1⟩
 case round =>
  clear h1 ho hr1 hb2
  obtain ⟨k,f2,vals,hk,rfl,hr2,b2,h2⟩:=hrel
  obtain ⟨wo,rfl⟩:∃ wo:World,wo=wr:=⟨_,rfl⟩
  by_cases hlt:k<N
  ·have z0:=(q1.out.below b2).1.1
   replace hr2:=Hd hr2
   go_wp2_with fail
   clear z0
   go_loopw [25] (fun jv wr=>∃ (j:Nat) (f:Names) (vals:List Value),j≤K∧jv=.int .i64 j∧Rows w1.heap.size wr f∧Below w1.heap.size w1 wr∧AN f (.slice oa on oc) vals N (arrTo K N T k j)) (fun jv _=>K-(intOf jv).toNat)
   case atStart=>exact ⟨0,f2,vals,by omega,rfl,hr2.out,b2,h2⟩
   case round =>
    clear hr2 h2 b2
    obtain ⟨j,f3,vals,hj,rfl,hr3,b3,h3⟩:=hrel
    obtain ⟨wo,rfl⟩:∃ wo:World,wo=wr:=⟨_,rfl⟩
    by_cases hjl:j<K
    ·obtain ⟨z0,z1,z2⟩:=(q1.out.below b3).1
     replace hr3:=Hd hr3
     go_wp2_with fail
     refine (hEdge.out k j _ (hg1.out.below b3) (hT1.out.below b3) hlt hjl).mono ?_
     rintro e w4 ⟨x,y,z,rfl,b4,rfl,rfl,rfl⟩
     have hr4:=hr3.out.below b4
     have b34:=Below.trans b3 (b4.mono b3.size)
     clear z0 z1 z2
     have hOV:=(hr4.ownV h3.outer).at
     have iO:=fun w'=>hOV.idx oneArrows k (by rw [h3.len]; exact hlt) w'
     have cO:=hOV.cellV k (by rw [h3.len]; exact hlt)
     have hT:=hr4.1 _ _ (h3.rows k hlt)
     have hB4:w1.heap.size≤w4.heap.size:=b34.size
     have happ:=fun (w5:World) (g c:Nat)=>h3.app hr4 (w1:=w5) (g:=g) (c:=c) hlt (toN K N k j) (labN K T k j)
     rw [arrTo_at,← arrL_succ,arrTo_step] at happ
     rw [arrTo_at] at hT
     unfold Row.own at hT
     simp only [arrL_len] at hT
     generalize vAt vals k=tv at *
     generalize valAt (.slice oa on oc) k=ua at *
     obtain ⟨X,hX⟩:∃ X,toN K N k j=X:=⟨_,rfl⟩
     obtain ⟨Y,hY⟩:∃ Y,labN K T k j=Y:=⟨_,rfl⟩
     rw [hX,hY] at happ ⊢
     replace happ:=Hd happ
     replace hr4:=Hd hr4
     replace hOV:=Hd hOV
     replace hX:=Hd hX
     replace hY:=Hd hY
     go_wp2_with (at_builtin; go_loud (refine wpl_app2 twoArrow rfl _ _ rfl w1.heap.size tv j (flat2 (arrL K N T k j)) X Y _ hT rfl rfl (by simp) (by omega) hB4 ?_))
     intro g c w7 ho7 hal7
     obtain ⟨y1,y2,y3,f8,vals8,hr8,h8⟩:=happ.out w7 g c (by rw [arrL_len]; exact ho7) hal7
     rw [arrL_len] at hr8
     replace hr8:=Hd hr8
     replace ho7:=Hd ho7
     have b7:Below w1.heap.size w4 w7:=by
      rcases hal7 with ⟨hv,hgr⟩ | ⟨_,hgr⟩
      ·exact (Below.refl _ _).grown hgr hB4 (fun m hm=>(World.ownsRow.lt hT m hm).1)
      ·exact (Below.refl _ _).grown hgr hB4 (fun m hm=>by cases hm)
     clear hal7 hT cO
     go_wp2
     go_roundw
     case measure=>simp [intOf]; omega
     case rel=>exact ⟨j+1,f8,vals8,by omega,by go_num,hr8.out,(b34.trans b7).setCell y3 _,h8⟩
    ·obtain rfl:j=K:=by omega
     rw [arrTo_next] at h3
     replace hr3:=Hd hr3
     go_wp2
     go_roundw
     case measure=>simp [intOf]; omega
     case rel=>exact ⟨k+1,f3,vals,by omega,by go_num,hr3.out,b3,h3⟩
  ·obtain rfl:k=N:=by omega
   have hA:=h2.reads hk1 hr2
   replace hA:=Hd hA
   replace hr2:=Hd hr2
   have bE:=Below.step b01 b2
   go_wp2
   go_ret
   exact ⟨_,rfl,bE,hA.out⟩
end Go.Proofs.YtindfaehjoileaaGreatDoor
namespace Go.Proofs.YtindfaehjoileaaGreatDoor
def ded (zs:List Int):Nat→List Int
 | 0=>[]
 | m+1=>ded zs m++if m=0∨zs.getD m 0≠zs.getD (m-1) 0 then [zs.getD m 0] else []
theorem ded_len (zs:List Int):∀ m,(ded zs m).length≤m
 | 0=>Nat.le_refl _
 | m+1=>by
  have:=ded_len zs m
  rw [ded,List.length_append]
  split<;>simp<;>omega
theorem sorted_getD {zs:List Int} (h:zs.Pairwise (·≤·)) {i j:Nat} (hij:i≤j) (hj:j<zs.length):zs.getD i 0≤zs.getD j 0:=by
 simp only [List.getD_eq_getElem?_getD,List.getElem?_eq_getElem hj,List.getElem?_eq_getElem (show i<zs.length by omega),Option.getD_some]
 by_cases e:i=j
 ·subst e; exact Int.le_refl _
 ·exact List.pairwise_iff_getElem.1 h i j (by omega) hj (by omega)
theorem ded_spec {zs:List Int} (h:zs.Pairwise (·≤·)):∀ m,m≤zs.length→(ded zs m).Pairwise (·<·)∧(∀ x,x∈ded zs m↔x∈zs.take m)
 | 0,_=>by simp [ded]
 | m+1,hm=>by
  obtain ⟨h1,h2⟩:=ded_spec h m (by omega)
  have ht:zs.take (m+1)=zs.take m++[zs.getD m 0]:=by
   rw [List.take_add_one,List.getElem?_eq_getElem (show m<zs.length by omega)]
   simp [List.getD,show m<zs.length by omega]
  have top:∀ x∈zs.take m,m≠0∧x≤zs.getD (m-1) 0:=fun x hx=>by
   obtain ⟨i,hi,e⟩:=List.mem_iff_getElem.1 hx
   have hi':i<m:=by rw [List.length_take] at hi; omega
   have:=sorted_getD h (show i≤m-1 by omega) (by omega)
   rw [List.getElem_take] at e
   rw [List.getD_eq_getElem?_getD,List.getElem?_eq_getElem (show i<zs.length by omega),Option.getD_some,e] at this
   exact ⟨by omega,this⟩
  rw [ded,ht]
  by_cases c:m=0∨zs.getD m 0≠zs.getD (m-1) 0
  ·rw [if_pos c]
   refine ⟨List.pairwise_append.2 ⟨h1,by simp,fun a ha b hb=>?_⟩,fun x=>by simp [h2]⟩
   rw [List.mem_singleton] at hb
   subst hb
   obtain ⟨t1,t2⟩:=top a ((h2 a).1 ha)
   have:=sorted_getD h (show m-1≤m by omega) (by omega)
   rcases c with c | c<;>omega
  ·rw [if_neg c,List.append_nil]
   refine ⟨h1,fun x=>?_⟩
   rw [h2,List.mem_append,List.mem_singleton]
   constructor
   ·exact .inl
   ·rintro (q | q)
    ·exact q
    ·have c2:m≠0∧zs.getD m 0=zs.getD (m-1) 0:=by
      refine ⟨fun e=>c (.inl e),?_⟩
      apply Classical.byContradiction
      intro e; exact c (.inr e)
     rw [q,c2.2,List.mem_iff_getElem]
     refine ⟨m-1,by rw [List.length_take]; omega,?_⟩
     rw [List.getElem_take]
     simp [List.getD,show m-1<zs.length by omega]
theorem sorted_eqI:∀ {L M:List Int},L.Pairwise (·<·)→M.Pairwise (·<·)→(∀ v,v∈L↔v∈M)→L=M
 | [],[],_,_,_=>rfl
 | [],b::M,_,_,h=>absurd ((h b).2 List.mem_cons_self) (by simp)
 | a::L,[],_,_,h=>absurd ((h a).1 List.mem_cons_self) (by simp)
 | a::L,b::M,hL,hM,h=>by
  obtain ⟨a1,a2⟩:=List.pairwise_cons.1 hL
  obtain ⟨b1,b2⟩:=List.pairwise_cons.1 hM
  have hab:a=b:=by
   rcases List.mem_cons.1 ((h a).1 List.mem_cons_self) with e | e
   ·exact e
   ·rcases List.mem_cons.1 ((h b).2 List.mem_cons_self) with e2 | e2
    ·exact e2.symm
    ·have:=b1 a e; have:=a1 b e2; omega
  subst hab
  rw [sorted_eqI a2 b2 fun v=>?_]
  have:=h v
  simp only [List.mem_cons] at this
  constructor
  ·intro hv
   rcases this.1 (.inr hv) with e | e
   ·subst e; exact absurd (a1 v hv) (Int.lt_irrefl _)
   ·exact e
  ·intro hv
   rcases this.2 (.inr hv) with e | e
   ·subst e; exact absurd (b1 v hv) (Int.lt_irrefl _)
   ·exact e
theorem ded_pair {K N:Nat} {T:List Int} (hN:0<N) {p:Nat} {zs:List Int} (hs:zs.Pairwise (·≤·)) (hm:∀ x,x∈zs↔x∈(rawP K N T (p/N) (p%N) K).map fun (n:Nat)=>(n:Int)) :
 ded zs zs.length=(pairL K N T p).map fun (n:Nat)=>(n:Int):=by
 obtain ⟨h1,h2⟩:=ded_spec hs zs.length (Nat.le_refl _)
 refine sorted_eqI h1 (List.pairwise_map.2 ((pairL_sorted K N T p).imp fun h=>by omega)) fun v=>?_
 rw [h2,List.take_length,hm]
 simp only [List.mem_map]
 constructor
 ·rintro ⟨q,hq,rfl⟩; exact ⟨q,(mem_pairL hN).2 (mem_rawP.1 hq),rfl⟩
 ·rintro ⟨q,hq,rfl⟩; exact ⟨q,mem_rawP.2 ((mem_pairL hN).1 hq),rfl⟩
open Go.RowKit Go.Shelf
set_option maxRecDepth 100000
def Tryz.laysCompact_ren:Go.Shelf.Ren:=⟨fun | 20=>266 | n=>n,fun | 22=>30 | 3=>3 | 4=>4 | 0=>0 | n=>n,fun | n=>n⟩
theorem Tryz.laysCompact:Go.Proofs.Lays2.n20 Tryz.prog Tryz.laysCompact_ren:={
 mixed:=by kernel_rfl
 f20:=Tryz.func266.trans (congrArg some (by kernel_rfl))
 t0:=Tryz.underlying0
 a0:=Tryz.isAgg0
 z0:=Tryz.sizeOf0
 v0:=Tryz.zeroValue0
 t3:=Tryz.underlying3
 a3:=Tryz.isAgg3
 z3:=Tryz.sizeOf3
 v3:=Tryz.zeroValue3
 t4:=Tryz.underlying4
 a4:=Tryz.isAgg4
 z4:=Tryz.sizeOf4
 v4:=Tryz.zeroValue4
 t22:=Tryz.underlying30
 a22:=Tryz.isAgg30
 z22:=Tryz.sizeOf30
 v22:=Tryz.zeroValue30
 i3:=by kernel_rfl }
theorem compact_ded (zs:List Int):Lib.compact zs=ded zs zs.length:=by
 have:∀ m,m≤zs.length→Lib.compactUpTo zs.toArray m=ded zs m:=by
  intro m
  induction m with
  | zero=>intro _; rfl
  | succ m ih =>
   intro hm
   rw [Lib.compactUpTo_succ,ih (by omega),ded]
   have e1:zs.toArray[m]! = zs.getD m 0:=by
    rw [getElem!_pos zs.toArray m (by simp; omega)]; simp [List.getD,show m<zs.length by omega]
   have e2:zs.toArray[m-1]! = zs.getD (m-1) 0:=by
    rw [getElem!_pos zs.toArray (m-1) (by simp; omega)]; simp [List.getD,show m-1<zs.length by omega]
   unfold Lib.keeps
   rw [e1,e2]
   by_cases c:m=0∨zs.getD m 0≠zs.getD (m-1) 0
   ·rw [if_pos c,if_pos (by simpa using c)]
   ·rw [if_neg c,if_neg (by simpa using c)]
 exact this _ (Nat.le_refl _)
theorem OwnI.cutTo {B:Nat} {w:World} {a:Option Addr} {n c:Nat} {xs:List Int} (h:OwnI B w (.slice a n c) xs) (m:Nat) (hm:m≤xs.length):OwnI B w (.slice a m c) (xs.take m):=by
 rcases h.2 with ⟨e,e2⟩ | ⟨g,cap,cur,e,hB,hg,hn,hcm,hs,ht⟩
 ·injection e with e1 e3 e4
  subst e1 e4
  obtain rfl:=List.length_eq_zero_iff.1 e2
  obtain rfl:m=0:=by simpa using hm
  exact OwnI.nil B w
 ·injection e with e1 e3 e4
  subst e1 e4
  have hl:(xs.take m).length=m:=by simp; omega
  refine ⟨by simp,.inr ⟨g,c,cur,by rw [hl],hB,hg,by rw [hl]; omega,hcm,hs,?_⟩⟩
  rw [hl,List.map_take,← ht,List.take_take]
  congr 1
  omega
theorem compact_own (B:Nat) (v:Value) (xs:List Int) (w:World) (h:OwnI B w v xs) (hl:xs.length≤9223372036854775807) :
 Calls Tryz.prog 266 #[v] w fun e w'=>∃ x,e=.returned x∧x.ownBlock=v.ownBlock∧OwnI B w' x (ded xs xs.length)∧Below B w w':=by
 rcases h.2 with ⟨rfl,hn⟩ | ⟨g,cap,cur,rfl,hb,hg,hn,hm,hs,ht⟩
 ·obtain rfl:=List.length_eq_zero_iff.1 hn
  refine Calls.mono (Any.slices_Compact_int_empty Tryz.laysCompact none 0 w) ?_
  rintro e w' ⟨rfl,rfl⟩
  exact ⟨_,rfl,rfl,h,Below.refl _ _⟩
 ·refine Calls.mono (Any.slices_Compact_int_cells Tryz.laysCompact g 0 xs.length cap xs w (Nat.le_refl _) hl hn (fun j hj=>?_) (fun j hj=>?_)) ?_
  ·have:=h.at.cellD j hj
   rw [valAt_row] at this
   simpa using this
  ·have:=h.frz j hj
   rw [valAt_row] at this
   simpa using this
  ·rintro e w' ⟨rfl,q,rfl⟩
   rw [List.take_length,compact_ded]
   have hd:=ded_len xs xs.length
   have hL:(ded xs xs.length++List.replicate (xs.length-(ded xs xs.length).length) (0:Int)).length=xs.length:=by simp; omega
   have:=setCells_own (w0:=w) (ded xs xs.length++List.replicate (xs.length-(ded xs xs.length).length) 0) 0 xs (w.drewN q) rfl (by rw [hL]; omega) (h.drewN q) (below_drewN (Below.refl _ _) q)
   rw [hL,List.take_zero,List.nil_append,Nat.zero_add,List.drop_length,List.append_nil] at this
   have ho:=this.1.cutTo (ded xs xs.length).length (by rw [hL]; exact hd)
   rw [List.take_left'  rfl] at ho
   exact ⟨_,rfl,rfl,ho,this.2⟩
end Go.Proofs.YtindfaehjoileaaGreatDoor
