/-
  Texts that the proof leans on.
-/
import Derived.Test.YtgjfejfeoofkhaaGreatDoorMLr2
import Derived.Deep.RegionLawGrows
import Derived.Deep.RegionHeld3
import Derived.LaidEql
import Derived.Stop.Asserts
import Derived.RowKitTokens
import Derived.Deep.LoopGhost
import Derived.Deep.RegionWith
import Derived.RegionTactic
set_option maxHeartbeats 8000000
set_option maxRecDepth 100000
namespace Go.Proofs.YtgjfejfeoofkhaaGreatDoor
open Go.RowKit
theorem GP:OneCell 34 9 (.string ⟨#[]⟩) 16:=⟨by kernel_rfl,by kernel_rfl,rfl,by decide,λ_=>by kernel_rfl⟩
def EAt(w:World)(t:ky)(v:Value):Prop :=
 match t with
 | none=>v=.agg #[.int .i64 0,.slice none 0 0,.slice none 0 0]
 | some (n,l)=>∃a1 n1 c1 a2 n2 c2,v=.agg #[.int .i64 n,.slice a1 n1 c1,.slice a2 n2 c2]/\aY w (.slice a1 n1 c1) (l.map λx=>Value.string x.1)/\ae w (.slice a2 n2 c2) (l.map (·.2))
def gw(B:Nat)(w:World)(t:ky)(v:Value):Prop :=
 match t with
 | none=>v=.agg #[.int .i64 0,.slice none 0 0,.slice none 0 0]
 | some (n,l)=>∃a1 n1 c1 a2 n2 c2,v=.agg #[.int .i64 n,.slice a1 n1 c1,.slice a2 n2 c2]/\aZ 9 B w (.slice a1 n1 c1) (l.map λx=>Value.string x.1)/\aZ 3 B w (.slice a2 n2 c2) ((l.map (·.2)).map (Value.int .i64))
theorem aZ.al{E:TypeId}{B:Nat}{w:World}{v:Value}{vs:List Value}(h:aZ E B w v vs){a:Addr}(ha:a.block<B)(u:Value):aZ E B (w.setCell a u) v vs:=ownsRow_setCell_below h ha u
theorem gw.at{B:Nat}{w:World}{t:ky}{v:Value}(h:gw B w t v):EAt w t v:=by
 match t,h with
 | none,h=>exact h
 | some (n,l),⟨a1,n1,c1,a2,n2,c2,e,h1,h2⟩=>exact⟨a1,n1,c1,a2,n2,c2,e,h1.at,aj.at (aZ.YW h2)⟩
theorem gw.mono{B B':Nat}{w:World}{t:ky}{v:Value}(h:gw B w t v)(hB:B'<=B):gw B' w t v:=by
 match t,h with
 | none,h=>exact h
 | some (n,l),⟨a1,n1,c1,a2,n2,c2,e,h1,h2⟩=>exact⟨a1,n1,c1,a2,n2,c2,e,h1.mono hB,h2.mono hB⟩
theorem gw.below{B:Nat}{w w':World}{t:ky}{v:Value}(h:gw B w t v)(hb:Below w.heap.size w w'):gw B w' t v:=by
 match t,h with
 | none,h=>exact h
 | some (n,l),⟨a1,n1,c1,a2,n2,c2,e,h1,h2⟩=>exact⟨a1,n1,c1,a2,n2,c2,e,h1.below hb,h2.below hb⟩
theorem gw.set{B:Nat}{w:World}{t:ky}{v:Value}(h:gw B w t v){a:Addr}(ha:a.block<B)(u:Value):gw B (w.setCell a u) t v:=by
 match t,h with
 | none,h=>exact h
 | some (n,l),⟨a1,n1,c1,a2,n2,c2,e,h1,h2⟩=>exact⟨a1,n1,c1,a2,n2,c2,e,h1.al ha u,h2.al ha u⟩
theorem gw.j9{B b:Nat}{w:World}{t:ky}{v:Value}(h:gw B w t v)(hb:b<B)(x y z:Value):gw B (((w.setCell ⟨b,0,none⟩ x).setCell ⟨b,1,none⟩ y).setCell ⟨b,2,none⟩ z) t v :=
 ((h.set (a:=⟨b,0,none⟩) hb x).set (a:=⟨b,1,none⟩) hb y).set (a:=⟨b,2,none⟩) hb z
theorem aZ.lit{E:TypeId}(B:Nat)(w:World)(hB:B<=w.heap.size)(x:Value):aZ E B (w.alloc (.cells #[x] E)) (.slice (some ⟨w.heap.size,0,none⟩) 1 1) [x] :=
 World.ownsRow_lit (base:=B) (e:=E) (size:=1) w #[x] 1 hB (by unfold maxLen;omega) rfl
theorem EAt.shape{w:World}{t:ky}{v:Value}(h:EAt w t v):∃n a1 n1 c1 a2 n2 c2,v=.agg #[.int .i64 n,.slice a1 n1 c1,.slice a2 n2 c2]:=by
 match t,h with
 | none,h=>exact⟨0,none,0,0,none,0,0,h⟩
 | some (n,l),⟨a1,n1,c1,a2,n2,c2,e,_⟩=>exact⟨n,a1,n1,c1,a2,n2,c2,e⟩
abbrev lk:Value:=.agg #[.int .i64 0,.slice none 0 0,.slice none 0 0]
theorem IY(r:Nat->Addr)(n:Int)(w:World)(hg:ck r w)(h1:1<=n)(h2:n<=11):
 Calls Tryz.prog 32 #[.int .i64 n] w λe w'=>e=.returned (iZ r n)/\w=w':=by
 obtain⟨c1,c2,c3,c4,c5,c6,c7,c8,c9,c10,c11,_,_,_,_⟩:=hg;have hn:n=1\/n=2\/n=3\/n=4\/n=5\/n=6\/n=7\/n=8\/n=9\/n=10\/n=11:=by omega
 rcases hn with rfl | rfl | rfl | rfl | rfl | rfl | rfl | rfl | rfl | rfl | rfl <;>
 (clear h1 h2;go_enter Tryz.func32,Tryz.ntmps32;go_wp2;go_ret;exact⟨rfl,rfl⟩)
theorem fH(n:Int)(a1:Option Addr)(n1 c1:Nat)(a2:Option Addr)(n2 c2:Nat)(w:World):
 Calls Tryz.prog 24 #[.agg #[.int .i64 n,.slice a1 n1 c1,.slice a2 n2 c2]] w (cz (λx _=>x=.bool (n != 0)) w):=by
 go_enter Tryz.func24,Tryz.ntmps24;go_wp2;go_ret;exact⟨_,rfl,(Below.refl _ _).alloc (Nat.le_refl _) _,rfl⟩
theorem jC(op:ByteArray)(at_ n:Int)(w:World):
 Calls Tryz.prog 54 #[.string op,.int .i64 at_,.int .i64 n] w (cz (λx w'=>gw w.heap.size w' (fresh op at_ n) x) w):=by
 go_enter Tryz.func54,Tryz.ntmps54;go_wp2;refine bodyPost_ret (v:=.agg #[.int .i64 n,.slice (some ⟨w.heap.size+1,0,none⟩) 1 1,.slice (some ⟨w.heap.size+1+1,0,none⟩) 1 1]) (by simp[results,Tryz.results54,go_sem]) rfl ⟨_,rfl,?_,?_⟩;.exact(((Below.refl _ _).alloc (Nat.le_refl _) _).alloc (by simp) _).alloc (by simp;omega) _
 .have h1:=(aZ.lit (E:=9) w.heap.size (w.alloc (.cells #[.int .i64 n,.slice (some ⟨w.heap.size+1,0,none⟩) 1 1,.slice (some ⟨w.heap.size+1+1,0,none⟩) 1 1] 36)) (by simp) (.string op)).alloc (.cells #[.int .i64 at_] 3);have h2:=aZ.lit (E:=3) w.heap.size ((w.alloc (.cells #[.int .i64 n,.slice (some ⟨w.heap.size+1,0,none⟩) 1 1,.slice (some ⟨w.heap.size+1+1,0,none⟩) 1 1] 36)).alloc (.cells #[.string op] 9)) (by simp;omega) (.int .i64 at_);simp only[World.size_alloc] at h1 h2;exact⟨_,_,_,_,_,_,rfl,h1,h2⟩
theorem aY.alloc{w:World}{v:Value}{vs:List Value}(h:aY w v vs)(o:Obj):aY (w.alloc o) v vs:=h.below ((Below.refl _ _).alloc (Nat.le_refl _) _)
theorem aY.drew{w:World}{v:Value}{vs:List Value}(h:aY w v vs):aY w.drew v vs:=h
theorem aY.split{w:World}{v:Value}{vs:List Value}(h:aY w v vs):(v=.slice none 0 0/\vs=[])\/∃p cap,v=.slice (some p) vs.length cap/\∀j u,vs[j]?=some u->w.cell? (p.add j)=some u:=by
 obtain⟨a,cap,rfl,h1,h2,h3,h4⟩:=h;cases a with
 | none =>
  obtain rfl:=h3 rfl;obtain rfl:=List.length_eq_zero_iff.1 (show vs.length=0 by omega);exact .inl ⟨rfl,rfl⟩
 | some p =>
  refine .inr ⟨p,cap,rfl,λj u hj=>?_⟩;have dw:j<vs.length:=(List.getElem?_eq_some_iff.1 hj).1;have:=h4 j dw;simp only[af] at this;rw[this,<-hj];simp[dw]
theorem BN{T E:TypeId}{z:Value}{bytes:Nat}(oc:OneCell T E z bytes){ops:Array Oper}{o:Oper}{a:Act}{w:World}{K:Act->World->Prop}{Q:Exit->Act->World->Prop}{Ep:Prop}(hg:o.guard=none)(s x:Operand)(LM:o.op=Op.call { callee:=Callee.builtin Builtin.append,args:=#[s,x],argTypes:=#[T,T] })(b:Nat)(x0:Value)(hs:a.eval s=.slice (some ⟨b,0,none⟩) 1 1)(hb:w.cell? ⟨b,0,none⟩=some x0)(u:Value)(ys:List Value)(hx:a.eval x=u)(hu:aY w u ys)(h0:0<ys.length)(hl:ys.length<=1000)(h1:∀u∈ys,u.oneCell'=true)(hK:∀v' w',aZ E w.heap.size w' v' (x0::ys)->Below w.heap.size w w'->K (a.put o.dst v') w'):
 if Region.wanted o (yielded ops a.tmps)=true then Oper.wp Tryz.prog o a w K Q else Ep:=by
 obtain⟨i,hi,qq,kS,oU⟩:=info_parts oc.hi;rcases hu.split with ⟨_,rfl⟩ | ⟨p,cap,rfl,hc⟩;.simp at h0
 .have nh:=oc.hb;refine step_append_grows hg s x T LM E i z 1 bytes oc.ht hi qq kS oU (by rw[oc.hz];rfl) (by decide) (some ⟨b,0,none⟩) 1 1 [x0] hs (λh=>by cases h) rfl
   (λb' ij j u hj=>by
     obtain rfl:=Option.some.inj ij;obtain⟨hj1,hj2⟩:=List.getElem?_eq_some_iff.1 hj;obtain rfl:j=0:=by simpa using hj1
     simp at hj2;subst hj2;exact hb) p ys.length cap ys hx (by simp) hc h1 (by omega) (by unfold maxLen;omega) (by
      calc (1+ys.length)*bytes<=1001*32:=Nat.mul_le_mul (by omega) nh
       _<=_:=by decide) ?_;intro v' w' aO qJ;have hv:aZ E w.heap.size w' v' (x0::ys):=by
   unfold aZ;rw[show(x0::ys).length=1+ys.length by simp;omega];exact aO
  exact hK v' w' hv ((Below.refl _ _).grown qJ (Nat.le_refl _) (by intro k hk;cases hk))
theorem pW(op:ByteArray)(at_:Int)(w:World):
 Calls Tryz.prog 51 #[.string op,.int .i64 at_,lk] w (cz (λx w'=>gw w.heap.size w' none x) w):=by
 go_enter Tryz.func51,Tryz.ntmps51;go_wp2;refine bodyPost_ret (v:=lk) (by simp[results,Tryz.results51,go_sem]) rfl ⟨_,rfl,?_,rfl⟩;exact((Below.refl _ _).alloc (Nat.le_refl _) _).alloc (by simp) _
theorem aY.shape{w:World}{v:Value}{vs:List Value}(h:aY w v vs):∃a n c,v=.slice a n c:=by
 obtain⟨a,cap,e,_⟩:=h;exact⟨_,_,_,e⟩
theorem au{w w':World}{b i:Nat}{x:Value}(hb:Below w.heap.size w w')(h:w.cell? ⟨b,i,none⟩=some x):w'.cell? ⟨b,i,none⟩=some x :=
 (hb.cell (p:=⟨b,i,none⟩) (World.block_lt_of_cell? _ _ h)).trans h
theorem eO{w:World}{b i:Nat}{x:Value}(h:w.cell? ⟨b,i,none⟩=some x)(o:Obj):(w.alloc o).cell? ⟨b,i,none⟩=some x:=au ((Below.refl _ _).alloc (Nat.le_refl _) _) h
theorem JD{w:World}{b:Nat}{x:Value}{T:TypeId}(hb:b=w.heap.size):(w.alloc (.cells #[x] T)).cell? ⟨b,0,none⟩=some x:=by subst hb;simp
theorem j4{w:World}{b i:Nat}{x:Value}(h:w.cell? ⟨b,i,none⟩=some x):w.drew.cell? ⟨b,i,none⟩=some x:=h
def az(w:World)(b:Nat)(x0 x1 x2:Value):Prop:=(w.cell? ⟨b,0,none⟩=some x0/\w.cell? ⟨b,1,none⟩=some x1/\w.cell? ⟨b,2,none⟩=some x2)/\w.frozen? ⟨b,0,none⟩=false/\w.frozen? ⟨b,1,none⟩=false/\w.frozen? ⟨b,2,none⟩=false
theorem az.below{w w':World}{b:Nat}{x0 x1 x2:Value}(h:az w b x0 x1 x2)(hb:Below w.heap.size w w'):az w' b x0 x1 x2:=by
 obtain⟨⟨h0,h1,h2⟩,f0,f1,f2⟩:=h;have aT:=World.block_lt_of_cell? _ _ h0;exact⟨⟨au hb h0,au hb h1,au hb h2⟩,(hb.frozen (p:=⟨b,0,none⟩) aT).trans f0,(hb.frozen (p:=⟨b,1,none⟩) aT).trans f1,(hb.frozen (p:=⟨b,2,none⟩) aT).trans f2⟩
theorem az.alloc{w:World}{b:Nat}{x0 x1 x2:Value}(h:az w b x0 x1 x2)(o:Obj):az (w.alloc o) b x0 x1 x2:=h.below ((Below.refl _ _).alloc (Nat.le_refl _) _)
theorem az.drew{w:World}{b:Nat}{x0 x1 x2:Value}(h:az w b x0 x1 x2):az w.drew b x0 x1 x2:=h
theorem aZ.drew{E:TypeId}{B:Nat}{w:World}{v:Value}{vs:List Value}(h:aZ E B w v vs):aZ E B w.drew v vs:=h
theorem Below.FE{w w':World}(h:Below w.heap.size w w')(o:Obj):Below w.heap.size w (w'.alloc o):=h.alloc h.size o
theorem Below.Af{w1 w2 w3:World}(h:Below w1.heap.size w1 w2)(k:Below w2.heap.size w2 w3):Below w1.heap.size w1 w3:=h.trans (k.mono h.size)
theorem pF(w:World)(o:Obj):Below w.heap.size w (w.alloc o):=(Below.refl _ _).alloc (Nat.le_refl _) _
theorem Below.Za{w w':World}{n:Nat}(h:Below n w w'):Below n w w'.drew:=h.drew
theorem Bg(op:ByteArray)(at_:Int)(n:Int)(l:List (ByteArray×Int))(v:Value)(w:World)(h:EAt w (some (n,l)) v)(hn:1<=n)(hl:1<=l.length)(A3:l.length<=1000):
 Calls Tryz.prog 51 #[.string op,.int .i64 at_,v] w (cz (λx w'=>gw w.heap.size w' (under op at_ (some (n,l))) x) w):=by
 obtain⟨a1,n1,c1,a2,n2,c2,rfl,hv,hi⟩:=h;have b2:=(Below.refl w.heap.size w).alloc (Nat.le_refl _) (.cells #[.int .i64 n,.slice a1 n1 c1,.slice a2 n2 c2] 36) |>.alloc (by simp) (.cells #[.int .i64 0,.slice none 0 0,.slice none 0 0] 36);have NN:(n==0)=false:=by rw[beq_eq_false_iff_ne];omega
 have RF:0<(l.map λx=>Value.string x.1).length:=by simp;omega
 have hvl2:(l.map λx=>Value.string x.1).length<=1000:=by simpa using A3
 have jM:0<((l.map (·.2)).map (Value.int .i64)).length:=by simp;omega
 have td:((l.map (·.2)).map (Value.int .i64)).length<=1000:=by simpa using A3
 have Ef:Hid (∀u∈(l.map λx=>Value.string x.1),u.oneCell'=true):=by intro u hu;obtain⟨y,_,rfl⟩:=List.mem_map.1 hu;rfl
 have hi1:Hid (∀u∈((l.map (·.2)).map (Value.int .i64)),u.oneCell'=true):=by intro u hu;obtain⟨y,_,rfl⟩:=List.mem_map.1 hu;rfl
 replace hv:=Hd (hv.below b2);replace hi:=Hd (hi.below b2).br;have J9:∀(a1:Option Addr) (n1 c1:Nat) (a2:Option Addr) (n2 c2:Nat) (w':World),aZ 9 (w.heap.size+2) w' (.slice a1 n1 c1) (.string op::l.map λx=>Value.string x.1)->aZ 3 (w.heap.size+2) w' (.slice a2 n2 c2) (.int .i64 at_::(l.map (·.2)).map (Value.int .i64))->gw w.heap.size w' (under op at_ (some (n,l))) (.agg #[.int .i64 n,.slice a1 n1 c1,.slice a2 n2 c2]) :=
  λa1 n1 c1 a2 n2 c2 w' h1 h2=>⟨_,_,_,_,_,_,rfl,h1.mono (by omega),h2.mono (by omega)⟩;replace J9:=Hd J9;generalize (l.map λx=>Value.string x.1)=LS at *;generalize ((l.map (·.2)).map (Value.int .i64))=LI at *;go_enter Tryz.func51,Tryz.ntmps51;go_wp2;have yy:az ((w.alloc (.cells #[.int .i64 n,.slice a1 n1 c1,.slice a2 n2 c2] 36)).alloc (.cells #[.int .i64 0,.slice none 0 0,.slice none 0 0] 36)) (w.heap.size+1) (.int .i64 0) (.slice none 0 0) (.slice none 0 0):=by simp[az,go_sem]
 have z0:((w.alloc (.cells #[.int .i64 n,.slice a1 n1 c1,.slice a2 n2 c2] 36)).alloc (.cells #[.int .i64 0,.slice none 0 0,.slice none 0 0] 36)).cell? ⟨w.heap.size,0,none⟩=some (.int .i64 n):=by simp
 have z1:((w.alloc (.cells #[.int .i64 n,.slice a1 n1 c1,.slice a2 n2 c2] 36)).alloc (.cells #[.int .i64 0,.slice none 0 0,.slice none 0 0] 36)).cell? ⟨w.heap.size,1,none⟩=some (.slice a1 n1 c1):=by simp
 have z2:((w.alloc (.cells #[.int .i64 n,.slice a1 n1 c1,.slice a2 n2 c2] 36)).alloc (.cells #[.int .i64 0,.slice none 0 0,.slice none 0 0] 36)).cell? ⟨w.heap.size,2,none⟩=some (.slice a2 n2 c2):=by simp
 obtain⟨W,hW⟩:=Ey (((w.alloc (.cells #[.int .i64 n,.slice a1 n1 c1,.slice a2 n2 c2] 36)).alloc (.cells #[.int .i64 0,.slice none 0 0,.slice none 0 0] 36)));have hWs:w.heap.size+2<=W.heap.size:=by rw[hW];simp
 rw[<-hW] at b2 hv hi yy z0 z1 z2 ⊢;clear hW;go_region_held3 (λw'=>w'.cell? ⟨w.heap.size,0,none⟩=some (.int .i64 n)/\w'.cell? ⟨w.heap.size,1,none⟩=some (.slice a1 n1 c1)/\w'.cell? ⟨w.heap.size,2,none⟩=some (.slice a2 n2 c2))
  (first | exact⟨z0,z1,z2⟩ | exact⟨kS0,kS1,kS2⟩ | exact⟨kI0,kI1,kI2⟩ | (simp[kI0,kI1,kI2,World.cell?_setCell_far];done) | (simp[kS0,kS1,kS2,World.cell?_setCell_far];done) | ((refine⟨?_,?_,?_⟩)<;>(repeat (first | with_reducible exact z0 | with_reducible exact z1 | with_reducible exact z2 | with_reducible exact kS0 | with_reducible exact kS1 | with_reducible exact kS2 | with_reducible exact kI0 | with_reducible exact kI1 | with_reducible exact kI2 | with_reducible refine j4 ?_ | with_reducible refine eO ?_ _))))
  (first
  | (refine BN GP rfl _ _ rfl _ (.string op) rfl ?_ (.slice a1 n1 c1) LS rfl ?_ RF hvl2 Ef.out ?_;.repeat (first | with_reducible refine j4 ?_ | with_reducible refine JD (by simp;done) | with_reducible refine eO ?_ _ | with_reducible refine au AU ?_)
     .repeat (first | with_reducible exact hv.out | with_reducible refine aY.drew ?_ | with_reducible refine aY.alloc ?_ _ | with_reducible refine aY.below ?_ AU)
     intro vS wS hS ql;obtain⟨sa,sn,sc,rfl⟩:=hS.shape;have eS:Below W.heap.size W wS:=Below.Af (by repeat (first | with_reducible exact Below.refl _ _ | with_reducible refine Below.Za ?_ | with_reducible refine Below.FE ?_ _)) ql;have mS:aZ 9 (w.heap.size+2) wS (.slice sa sn sc) (.string op::LS):=hS.mono (by simp;omega);have kS0:wS.cell? ⟨w.heap.size,0,none⟩=some (.int .i64 n):=au ql (by repeat (first | with_reducible exact z0 | with_reducible exact kI0 | with_reducible refine j4 ?_ | with_reducible refine eO ?_ _));have kS1:wS.cell? ⟨w.heap.size,1,none⟩=some (.slice a1 n1 c1):=au ql (by repeat (first | with_reducible exact z1 | with_reducible exact kI1 | with_reducible refine j4 ?_ | with_reducible refine eO ?_ _));have kS2:wS.cell? ⟨w.heap.size,2,none⟩=some (.slice a2 n2 c2):=au ql (by repeat (first | with_reducible exact z2 | with_reducible exact kI2 | with_reducible refine j4 ?_ | with_reducible refine eO ?_ _));have yS:az wS (w.heap.size+1) (.int .i64 0) (.slice none 0 0) (.slice none 0 0):=az.below (by repeat (first | with_reducible exact yy | with_reducible exact yI | with_reducible refine az.drew ?_ | with_reducible refine az.alloc ?_ _)) ql;have yS':=yS;obtain⟨⟨qS0,qS1,qS2⟩,gS0,gS1,gS2⟩:=yS')
  | (refine BN uP rfl _ _ rfl _ (.int .i64 at_) rfl ?_ (.slice a2 n2 c2) LI rfl ?_ jM td hi1.out ?_;.repeat (first | with_reducible refine j4 ?_ | with_reducible refine JD (by simp;done) | with_reducible refine eO ?_ _ | with_reducible refine au ql ?_)
     .repeat (first | with_reducible exact hi.out | with_reducible refine aY.drew ?_ | with_reducible refine aY.alloc ?_ _ | with_reducible refine aY.below ?_ ql)
     intro vI wI hI AU;obtain⟨ia,im,ic,rfl⟩:=hI.shape;have eI:Below W.heap.size W wI:=Below.Af (by repeat (first | with_reducible exact eS | with_reducible refine Below.Za ?_ | with_reducible refine Below.FE ?_ _)) AU;have mI:aZ 3 (w.heap.size+2) wI (.slice ia im ic) (.int .i64 at_::LI):=hI.mono (by have:=eS.size;simp;omega);have mS':aZ 9 (w.heap.size+2) wI (.slice sa sn sc) (.string op::LS):=aZ.below (by repeat (first | with_reducible exact mS | with_reducible refine aZ.drew ?_ | with_reducible refine aZ.alloc ?_ _)) AU;have kI0:wI.cell? ⟨w.heap.size,0,none⟩=some (.int .i64 n):=au AU (by repeat (first | with_reducible exact z0 | with_reducible exact kS0 | with_reducible refine j4 ?_ | with_reducible refine eO ?_ _));have kI1:wI.cell? ⟨w.heap.size,1,none⟩=some (.slice a1 n1 c1):=au AU (by repeat (first | with_reducible exact z1 | with_reducible exact kS1 | with_reducible refine j4 ?_ | with_reducible refine eO ?_ _));have kI2:wI.cell? ⟨w.heap.size,2,none⟩=some (.slice a2 n2 c2):=au AU (by repeat (first | with_reducible exact z2 | with_reducible exact kS2 | with_reducible refine j4 ?_ | with_reducible refine eO ?_ _));have yI:az wI (w.heap.size+1) (.int .i64 0) (.slice none 0 0) (.slice none 0 0):=az.below (by repeat (first | with_reducible exact yy | with_reducible exact yS | with_reducible refine az.drew ?_ | with_reducible refine az.alloc ?_ _)) AU;have yI':=yI;obtain⟨⟨qI0,qI1,qI2⟩,gI0,gI1,gI2⟩:=yI'));all_goals
  have hE:=Hd (J9.out sa sn sc ia im ic _ (((mS'.al (a:=⟨w.heap.size+1,0,none⟩) (by simp) (.int .i64 n)).al (a:=⟨w.heap.size+1,1,none⟩) (by simp) (.slice sa sn sc)).al (a:=⟨w.heap.size+1,2,none⟩) (by simp) (.slice ia im ic)) (((mI.al (a:=⟨w.heap.size+1,0,none⟩) (by simp) (.int .i64 n)).al (a:=⟨w.heap.size+1,1,none⟩) (by simp) (.slice sa sn sc)).al (a:=⟨w.heap.size+1,2,none⟩) (by simp) (.slice ia im ic)));have hB:=Hd ((((b2.trans (eI.mono b2.size)).setCell (p:=⟨w.heap.size+1,0,none⟩) (by simp) (.int .i64 n)).setCell (p:=⟨w.heap.size+1,1,none⟩) (by simp) (.slice sa sn sc)).setCell (p:=⟨w.heap.size+1,2,none⟩) (by simp) (.slice ia im ic));clear mS mS' mI eS eI kS0 kS1 kS2 kI0 kI1 kI2 yS qS0 qS1 qS2 gS0 gS1 gS2 hS hI ql AU;go_wp2;exact bodyPost_ret (v:=.agg #[.int .i64 n,.slice sa sn sc,.slice ia im ic]) (by simp[results,Tryz.results51,go_sem,qI0,qI1,qI2]) rfl ⟨_,rfl,hB.out,hE.out⟩
theorem oV:OneCell 167 4 (.bool false) 1:=⟨by kernel_rfl,by kernel_rfl,rfl,by decide,λ_=>by kernel_rfl⟩
theorem xC:OneCell 118 167 (.slice none 0 0) 24:=⟨by kernel_rfl,by kernel_rfl,rfl,by decide,λ_=>by kernel_rfl⟩
def cZ(l:List Bool):List Value:=l.map Value.bool
theorem gZ(l:List Bool):(cZ l).length=l.length:=by simp[cZ]
theorem Cc(l:List Bool)(i:Nat)(b:Bool):(cZ l).set i (.bool b)=cZ (l.set i b):=by unfold cZ;rw[List.map_set]
theorem tI{l:List Bool}{i:Nat}(h:i<(cZ l).length):(cZ l)[i]=.bool (l.getD i false):=by
 have h2:i<l.length:=by rw[<-gZ];exact h
 have e:l.getD i false=l[i]:=by simp[List.getD,h2]
 rw[e];exact List.getElem_map ..
def An(l:List Bool)(i:Nat):List Int:=(l.take i).map bI++List.replicate (l.length-i) 0
def Cx(l:List Bool)(i:Nat):List Value:=(An l i).map (Value.int .u8)
theorem Ix{l:List Bool}{i:Nat}(h:i<=l.length):(An l i).length=l.length:=by
 unfold An;rw[List.length_append,List.length_replicate,List.length_map,List.length_take];omega
theorem Ul{l:List Bool}{i:Nat}(h:i<=l.length):(Cx l i).length=l.length:=by unfold Cx;rw[List.length_map,Ix h]
theorem PB(l:List Bool):An l l.length=l.map bI:=by unfold An;simp
theorem E3{l:List Bool}{i:Nat}(h:i<l.length):(An l i).set i (bI (l.getD i false))=An l (i+1):=by
 unfold An;obtain⟨k,hk⟩:∃k,l.length-i=k+1:=⟨l.length-i-1,by omega⟩;have hl:((l.take i).map bI).length=i:=by simp;omega
 rw[hk,show l.length-(i+1)=k by omega,List.set_append_right _ _ (by omega),hl,Nat.sub_self,List.replicate_succ,List.set_cons_zero];rw[show l.take (i+1)=l.take i++[l.getD i false] by rw[List.take_add_one];simp[List.getD,h],List.map_append,List.append_assoc];rfl
theorem OM{l:List Bool}{i:Nat}(h:i<l.length)(e:l.getD i false=false):An l i=An l (i+1):=by
 rw[<-E3 h,e];refine List.ext_getElem (by simp) λj h1 h2=>?_;by_cases c:i=j;.subst c;rw[List.getElem_set_self];simp[An,Nat.min_eq_left (Nat.le_of_lt h),bI]
 .rw[List.getElem_set_ne c]
theorem tX{w:World}{v:Value}{l:List Bool}(h:aY w v (cZ l)):∃a c,v=.slice a l.length c:=by
 obtain⟨a,c,e,-⟩:=h;rw[gZ] at e;exact⟨a,c,e⟩
theorem QE(B:Nat)(w:World)(v:Value)(ns:List Int)(h:aZ 5 B w v (ns.map (Value.int .u8)))(h1:1<=ns.length):(convert 221 9 v).run Tryz.prog w=.ok (.string (strOfNums ns)) w:=by
 have hl:(ns.map (Value.int .u8)).length=ns.length:=by simp
 rcases h.2 with ⟨rfl,hn⟩ | ⟨g,cap,cur,rfl,hb,hg,hn,hm,hs,ht⟩;.omega
 .refine run_convert_bytes_arg (P:=Tryz.prog) w 221 5 qM.ht ZA g 0 (ns.map (Value.int .u8)).length cap ns (by simp) (λi hi=>?_) 9 SX;have:=h.at.cell i hi;rw[cj] at this;rw[Nat.zero_add,this];have Au:i<ns.length:=by rw[<-hl];exact hi
  simp[List.getD,Au]
theorem JZ(v:Value)(l:List Bool)(w:World)(h:aY w v (cZ l))(h1:1<=l.length)(hl:l.length<=4096):
 Calls Tryz.prog 102 #[v] w (cz (λx _=>x=.string (Ar l)) w):=by
 obtain⟨va,vc,rfl⟩:=tX h;replace h:=Hd h;go_enter Tryz.func102,Tryz.ntmps102;go_wp2_with (at_make;refine uK qM rfl _ _ rfl (l.length:Int) rfl rfl (by omega) (by omega) ?_);intro bv w1 nT g1;have b1:Below w.heap.size w w1:=(Below.refl _ _).grown g1 (Nat.le_refl _) (by intro k hk;cases hk);obtain⟨ba,bn,bc,rfl⟩:=nT.shape;replace nT:=Hd nT;go_wp2_with fail;go_loopw [4] (λiv wr=>∃i:Nat,iv=.int .i64 i/\i<=l.length/\aZ 5 w.heap.size wr (.slice ba bn bc) (Cx l i)/\Below w.heap.size w wr) (λiv _=>l.length-(intOf iv).toNat);case atStart=>exact⟨0,rfl,Nat.zero_le _,by simpa [Cx,An] using nT.out,b1⟩
 case round =>
  obtain⟨i,rfl,hi,hO,hB⟩:=hrel;obtain⟨wo,rfl⟩:=Ey wr;by_cases jM:i<l.length
  .have di:decide ((i:Int)<(l.length:Int))=true:=decide_eq_true (by omega);have hv:=h.out.below hB;have iX:=λw'=>hv.idx oV i (by rw[gZ];exact jM) w';have cX:=hv.cell i (by rw[gZ];exact jM);rw[tI] at cX;have hk:i<(Cx l i).length:=by rw[Ul hi];exact jM
   have iS:=λw'=>hO.at.idx qM i hk w';obtain⟨cS,eS⟩:∃y,wo.cell? (af (.slice ba bn bc) i)=some y:=⟨_,hO.at.cell _ hk⟩;have fS:=hO.mQ _ hk;have jh:=hO.set _ hk (.int .u8 1);have sS:=hB.setCell (hO.jP _ hk).2 (.int .u8 1);have nx:=E3 jM;have nz:=λe=>OM jM e;obtain⟨b,hb⟩:=Ex (l.getD i false);rw[hb] at cX nx nz;obtain⟨xa,lY⟩:=Ex (af (.slice va l.length vc) i);rw[lY] at iX cX;obtain⟨aS,C0⟩:=Ex (af (.slice ba bn bc) i);rw[C0] at iS eS fS jh sS;replace⟨lY,C0,hb,hv⟩:=gF lY C0 hb hv;cases b with
   | true =>
    have e2:(Cx l i).set i (.int .u8 1)=Cx l (i+1):=by
     unfold Cx;rw[<-nx,List.map_set];rfl
    rw[e2] at jh;replace⟨jh,sS,e2,nx⟩:=gF jh sS e2 nx;clear hO nz;go_wp2;go_roundw;case measure=>simp[intOf];omega
    case rel=>exact⟨i+1,by go_num,by omega,jh.out,sS.out⟩
   | false =>
    have e2:Cx l i=Cx l (i+1):=by unfold Cx;rw[nz rfl]
    clear jh sS nx nz;replace⟨e2,hO,hB⟩:=dO e2 hO hB;go_wp2;go_roundw;case measure=>simp[intOf];omega
    case rel=>exact⟨i+1,by go_num,by omega,e2.out▸hO.out,hB.out⟩
  .have di:decide ((i:Int)<(l.length:Int))=false:=decide_eq_false (by omega);obtain rfl:i=l.length:=by omega
   have hc:=QE w.heap.size wo _ _ hO (by rw[Ix (Nat.le_refl _)];exact h1);rw[PB] at hc;replace hO:=Hd hO;go_wp2;go_ret;exact⟨_,rfl,hB,rfl⟩
theorem OZ(v:Value)(l:List Bool)(w:World)(h:aY w v (cZ l)):
 Calls Tryz.prog 104 #[v] w (λe w'=>e=.returned (.bool (!l.any id))/\w'=w):=by
 have lle:=h.gN;rw[gZ] at lle;obtain⟨va,vc,rfl⟩:=tX h;replace h:=Hd h;go_enter Tryz.func104,Tryz.ntmps104;go_wp2;go_loopw [3] (λiv wr=>∃i:Nat,iv=.int .i64 i/\i<=l.length/\wr=w/\∀j,j<i->l.getD j false=false) (λiv _=>l.length-(intOf iv).toNat);case atStart=>exact⟨0,rfl,Nat.zero_le _,rfl,λj hj=>absurd hj (Nat.not_lt_zero _)⟩
 case round =>
  obtain⟨i,rfl,hi,rfl,ig⟩:=hrel;by_cases jM:i<l.length;.have di:decide ((i:Int)<(l.length:Int))=true:=decide_eq_true (by omega);have iX:=λw'=>h.out.idx oV i (by rw[gZ];exact jM) w';have cX:=h.out.cell i (by rw[gZ];exact jM);rw[tI] at cX;have han:l.getD i false=true->l.any id=true:=λe=>(FM rfl).2 ⟨i,jM,e⟩;obtain⟨b,hb⟩:=Ex (l.getD i false);rw[hb] at cX han;obtain⟨xa,lY⟩:=Ex (af (.slice va l.length vc) i);rw[lY] at iX cX;replace⟨lY,hb,ig⟩:=dO lY hb ig;cases b with
   | true =>
    have e:=Hd (han rfl);clear han;go_wp2;go_ret;exact⟨by rw[e.out];rfl,rfl⟩
   | false =>
    clear han;go_wp2;go_roundw;case measure=>simp[intOf];omega
    case rel=>exact⟨i+1,by go_num,by omega,(by first | trivial | rfl),λj hj=>by
     by_cases e:j=i;.subst e;exact hb.out
     .exact ig.out j (by omega)⟩
  .have di:decide ((i:Int)<(l.length:Int))=false:=decide_eq_false (by omega);have e:l.any id=false:=by
    cases x:l.any id with
    | false=>rfl
    | true =>
     obtain⟨v,hv,e⟩:=(FM rfl).1 x;rw[ig v (by omega)] at e;cases e
   replace e:=Hd e;clear ig;go_wp2;go_ret;exact⟨by rw[e.out];rfl,rfl⟩
theorem M1(k:Int)(v:Value)(xs:List Int)(w:World)(h:ae w v xs):
 Calls Tryz.prog 110 #[.int .i64 k,v] w λe w'=>e=.returned (.int .i64 (idxOf (lR k) xs))/\w=w':=by
 have hlen:=h.len;have hm:=h.gN;go_enter Tryz.func110,Tryz.ntmps110;go_wp2;go_loop [5] (λi=>∃j:Nat,j<=xs.length/\i=.int .i64 j/\∀t (ht:t<xs.length),t<j->lR k xs[t]=false) (λi=>xs.length-(intOf i).toNat);case atStart=>exact⟨0,by omega,rfl,by omega⟩
 case round =>
  obtain⟨j,hj,rfl,hp⟩:=hrel;replace hp:=Hd hp;by_cases aT:j<xs.length
  .have hi:=h.idx j aT;have hc:=h.cell j aT;by_cases ho:lR k xs[j]=true
   .have nD:=ho;simp only[lR,Bool.or_eq_true,decide_eq_true_eq] at nD;have iM:=Hd (xR (p:=lR k) j aT ho λt ht h=>hp.out t ht h);clear ho;generalize xs[j]=x at hc nD;by_cases h0:x<0;.clear nD;go_wp2;go_ret;exact⟨nW iM.out.symm,rfl⟩
    .have h1:k<=x:=by omega
     clear nD;go_wp2;go_ret;exact⟨nW iM.out.symm,rfl⟩
   .have nD:lR k xs[j]=false:=by simpa using ho
    have hH:=Hd nD;have jK:=rG.1 nD;clear ho nD;have hh:∀x,xs[j]=x->x=xs[j]:=λx e=>e.symm;generalize hx:xs[j]=x at hc jK;replace hx:=Hd hx;obtain⟨g0,g1⟩:=jK;clear hh;go_wp2;go_round;case rel =>
     refine⟨j+1,by omega,by go_num,?_⟩;intro t ht VI;by_cases e:t=j;.subst e;exact hH.out
     .exact hp.out t ht (by omega)
    case measure=>simp[intOf];omega
  .go_wp2;go_ret;refine⟨nW (ob λx hx=>?_).symm,rfl⟩;obtain⟨t,ht,rfl⟩:=List.mem_iff_getElem.1 hx;exact hp.out t ht (by omega)
theorem Lo(K n:Nat)(w:World)(h1:1<=K)(h4:K<=4)(hn:n<=7):
 Calls Tryz.prog 60 #[.int .i64 K,.int .i64 n] w λe w'=>e=.returned (.int .i64 (pw K n))/\w=w':=by
 go_enter Tryz.func60,Tryz.ntmps60;go_wp2;go_loop [5,6] (λx i=>∃j:Nat,j<=n/\i=.int .i64 j/\x=.int .i64 (pw K j)) (λ_ i=>n-(intOf i).toNat);case atStart=>exact⟨0,by omega,rfl,rfl⟩
 case round =>
  obtain⟨j,hj,rfl,rfl⟩:=hrel;by_cases aT:j<n
  .have hb:=nr (i:=j+1) h1 h4 (by omega);have hs:((pw K (j+1):Nat):Int)=(pw K j:Int)*(K:Int):=by rw[dW];simp
   have kZ:0<=(pw K j:Int)*(K:Int):=by rw[<-hs];omega
   have ij:(pw K j:Int)*(K:Int)<=16384:=by rw[<-hs];omega
   replace hs:=Hd hs;go_wp2;go_round;case rel=>exact⟨j+1,by omega,by go_num,by rw[hs.out]⟩
   case measure=>simp[intOf];omega
  .obtain rfl:j=n:=by omega
   go_wp2;go_ret;exact⟨rfl,rfl⟩
theorem lq(k m:Int)(K n:Nat)(w:World)(hk:k=K)(hm:m=n)(h1:1<=K)(h4:K<=4)(hn:n<=7):
 Calls Tryz.prog 60 #[.int .i64 k,.int .i64 m] w λe w'=>e=.returned (.int .i64 (pw K n))/\w=w':=by
 subst hk hm;exact Lo K n w h1 h4 hn
theorem I2(K N X:Nat)(w:World)(dS:1<=K)(fs:K<=4)(hN:N<=7)(hX:X<=16384):
 Calls Tryz.prog 111 #[.int .i64 K,.int .i64 N,.int .i64 X] w (cz (λx w'=>aj w.heap.size w' x (aV K N X)) w):=by
 have hK0:((K:Int)==0)=false:=by rw[beq_eq_false_iff_ne];omega
 have Yy:¬ (K:Int)=0:=by omega
 have hK2:(0:Int)<K:=by omega
 go_enter Tryz.func111,Tryz.ntmps111;go_wp2_with (at_make;refine me rfl _ _ rfl _ rfl rfl (by omega) (by omega) ?_);intro wv w1 ho b1;go_wp2;go_loopw [2,8] (λx i wr=>∃j:Nat,j<=N/\i=.int .i64 ((N:Int)-1-(j:Int))/\x=.int .i64 (X/pw K j:Nat)/\aj w.heap.size wr wv ((List.replicate N (0:Int)).take (N-j)++(aV K N X).drop (N-j))/\Below w.heap.size w wr) (λ_ i _=>(intOf i+1).toNat);case atStart=>exact⟨0,by omega,by simp,by simp[pw],by rw[Nat.sub_zero,List.drop_of_length_le (by simp[aK]),List.append_nil,List.take_of_length_le (by simp)];exact ho,b1⟩
 case round =>
  obtain⟨j,hj,rfl,rfl,hO,AU⟩:=hrel;obtain⟨wi,rfl⟩:=Ey wr;by_cases dw:j<N
  .have tp:((List.replicate N (0:Int)).take (N-j)++(aV K N X).drop (N-j)).length=N:=by simp[aK]
   have i1:∀w',(Instr.indexAt 22 wv (.int .i64 ((N:Int)-1-(j:Int)))).run Tryz.prog w'=.ok (.pointer (some (af wv (N-1-j)))) w':=by
    intro w';have:=hO.at.Mi ((N:Int)-1-(j:Int)) (by omega) (by rw[tp];omega) w';rwa [show((N:Int)-1-(j:Int)).toNat=N-1-j by omega] at this
   have c1:=hO.at.aH (N-1-j) (by rw[tp];omega);have f1:=hO.mQ (N-1-j) (by rw[tp];omega);have hS:=hO.set (N-1-j) (by rw[tp];omega) ((X/pw K j%K:Nat):Int);have ql:=hO.dB AU (N-1-j) (by rw[tp];omega) (.int .i64 ((X/pw K j%K:Nat):Int));rw[yU K N X j dw (List.replicate N (0:Int)) (by simp)] at hS;replace⟨hS,ql⟩:=bD hS ql;have V0:=@Hd (X/pw K j/K=X/pw K (j+1)) (by rw[Nat.div_div_eq_div_mul,<-dW]);have OQ:X/pw K j<=16384:=Nat.le_trans (Nat.div_le_self _ _) (by omega);generalize ((List.replicate N (0:Int)).take (N-j)++(aV K N X).drop (N-j)).getD (N-1-j) 0=y at c1;clear tp hO;generalize X/pw K j=q at *;rw[Int.natCast_emod] at hS ql;have hd0:0<=(q:Int)/(K:Int):=Int.ediv_nonneg (by omega) (by omega);have hd1:(q:Int)/(K:Int)<=16384:=by
    have h1:q/K<=q:=Nat.div_le_self _ _;have h2:q/K<=16384:=by omega
    exact_mod_cast h2
   have hdw:IntKind.i64.wrap ((q:Int)/(K:Int))=(q:Int)/(K:Int):=db (by omega) (by omega);go_wp2;go_roundw;case rel=>exact⟨j+1,by omega,by congr 1;omega,by rw[<-V0.out];simp,hS.out,ql.out⟩
   case measure=>simp[intOf];omega
  .obtain rfl:j=N:=by omega
   rw[Nat.sub_self,List.take_zero,List.drop_zero,List.nil_append] at hO;replace hO:=Hd hO;go_wp2;go_ret;exact⟨_,rfl,AU,hO.out⟩
theorem wO(k m x:Int)(K N X:Nat)(w:World)(hk:k=K)(hm:m=N)(hx:x=X)(dS:1<=K)(fs:K<=4)(hN:N<=7)(hX:X<=16384):
 Calls Tryz.prog 111 #[.int .i64 k,.int .i64 m,.int .i64 x] w (cz (λx w'=>aj w.heap.size w' x (aV K N X)) w):=by
 subst hk hm hx;exact I2 K N X w dS fs hN hX
theorem gw.shape{B:Nat}{w:World}{t:ky}{v:Value}(h:gw B w t v):∃n a1 n1 c1 a2 n2 c2,v=.agg #[.int .i64 n,.slice a1 n1 c1,.slice a2 n2 c2]:=h.at.shape
theorem zl{w w1:World}{x0 x1 x2 x3 x4 x5:Value}{T1 T2:TypeId}(hb:Below ((w.alloc (.cells #[x0,x1,x2] T1)).alloc (.cells #[x3,x4,x5] T2)).heap.size ((w.alloc (.cells #[x0,x1,x2] T1)).alloc (.cells #[x3,x4,x5] T2)) w1):
 (w1.cell? ⟨w.heap.size,0,none⟩=some x0/\w1.cell? ⟨w.heap.size,1,none⟩=some x1/\w1.cell? ⟨w.heap.size,2,none⟩=some x2) /\
 (w1.cell? ⟨w.heap.size+1,0,none⟩=some x3/\w1.cell? ⟨w.heap.size+1,1,none⟩=some x4/\w1.cell? ⟨w.heap.size+1,2,none⟩=some x5) /\
 (w1.frozen? ⟨w.heap.size+1,0,none⟩=false/\w1.frozen? ⟨w.heap.size+1,1,none⟩=false/\w1.frozen? ⟨w.heap.size+1,2,none⟩=false):=by
 refine⟨x8 (n:=w.heap.size) hb ⟨by simp[go_sem],by simp[go_sem],by simp[go_sem]⟩,?_⟩;have:=oD hb;rw[show(w.alloc (.cells #[x0,x1,x2] T1)).heap.size=w.heap.size+1 by simp] at this;exact⟨⟨this.1,this.2.1,this.2.2.1⟩,this.2.2.2⟩
theorem TD{w w1:World}{n:Nat}(h:Below (w.drewN n).heap.size (w.drewN n) w1):Below w.heap.size w w1:=(below_drewN (Below.refl w.heap.size w) n).trans h
theorem aB{B b:Nat}{w0 w:World}(h:Below B w0 w)(hb:B<=b)(x y z:Value):Below B w0 (((w.setCell ⟨b,0,none⟩ x).setCell ⟨b,1,none⟩ y).setCell ⟨b,2,none⟩ z) :=
 ((h.setCell (p:=⟨b,0,none⟩) hb x).setCell (p:=⟨b,1,none⟩) hb y).setCell (p:=⟨b,2,none⟩) hb z
theorem J4(k R:Int)(va:Option Addr)(vn vc:Nat)(w:World)(h:k<1\/4<k):
 Calls Tryz.prog 59 #[.agg #[.int .i64 k,.int .i64 R,.slice va vn vc]] w (cz (λx w'=>gw w.heap.size w' (fresh kh 0 1) x) w):=by
 have b0:=Below.step (ab w (.cells #[.int .i64 k,.int .i64 R,.slice va vn vc] 24)) (ab _ (.cells #[.int .i64 0,.slice none 0 0,.slice none 0 0] 36));have d:(decide (k<1)||decide (4<k))=true:=by simpa using h
 by_cases h1:k<1;.clear h d;go_enter Tryz.func59,Tryz.ntmps59;go_wp2_with fail;refine(jC _ _ _ _).mono ?_;rintro e w1 ⟨x,rfl,b1,he⟩;obtain⟨q,a1,n1,c1,a2,n2,c2,rfl⟩:=he.shape;obtain⟨-,⟨y0,y1,y2⟩,f0,f1,f2⟩:=zl b1;replace he:=Hd he;go_wp2;exact bodyPost_ret (v:=.agg #[.int .i64 q,.slice a1 n1 c1,.slice a2 n2 c2]) (by simp[results,Tryz.results59,go_sem,y0,y1,y2]) rfl ⟨_,rfl,aB (Below.step b0 b1) (by simp) _ _ _,(he.out.j9 (by simp) _ _ _).mono (by simp;omega)⟩
 .have h2:4<k:=by omega
  clear h d;go_enter Tryz.func59,Tryz.ntmps59;go_wp2_with fail;refine(jC _ _ _ _).mono ?_;rintro e w1 ⟨x,rfl,b1,he⟩;obtain⟨q,a1,n1,c1,a2,n2,c2,rfl⟩:=he.shape;obtain⟨-,⟨y0,y1,y2⟩,f0,f1,f2⟩:=zl b1;replace he:=Hd he;go_wp2;exact bodyPost_ret (v:=.agg #[.int .i64 q,.slice a1 n1 c1,.slice a2 n2 c2]) (by simp[results,Tryz.results59,go_sem,y0,y1,y2]) rfl ⟨_,rfl,aB (Below.step b0 b1) (by simp) _ _ _,(he.out.j9 (by simp) _ _ _).mono (by simp;omega)⟩
theorem Kc(K:Nat)(R:Int)(va:Option Addr)(vn vc:Nat)(w:World)(h1:1<=K)(h4:K<=4)(h:R<0\/3<R):
 Calls Tryz.prog 59 #[.agg #[.int .i64 K,.int .i64 R,.slice va vn vc]] w (cz (λx w'=>gw w.heap.size w' (fresh kh 1 1) x) w):=by
 have b0:=Below.step (ab w (.cells #[.int .i64 K,.int .i64 R,.slice va vn vc] 24)) (ab _ (.cells #[.int .i64 0,.slice none 0 0,.slice none 0 0] 36));rcases h with h | h;.go_enter Tryz.func59,Tryz.ntmps59;go_wp2_with fail;refine(jC _ _ _ _).mono ?_;rintro e w1 ⟨x,rfl,b1,he⟩;obtain⟨q,a1,n1,c1,a2,n2,c2,rfl⟩:=he.shape;obtain⟨-,⟨y0,y1,y2⟩,f0,f1,f2⟩:=zl b1;replace he:=Hd he;go_wp2;exact bodyPost_ret (v:=.agg #[.int .i64 q,.slice a1 n1 c1,.slice a2 n2 c2]) (by simp[results,Tryz.results59,go_sem,y0,y1,y2]) rfl ⟨_,rfl,aB (Below.step b0 b1) (by simp) _ _ _,(he.out.j9 (by simp) _ _ _).mono (by simp;omega)⟩
 .have h0:0<=R:=by omega
  go_enter Tryz.func59,Tryz.ntmps59;go_wp2_with fail;refine(jC _ _ _ _).mono ?_;rintro e w1 ⟨x,rfl,b1,he⟩;obtain⟨q,a1,n1,c1,a2,n2,c2,rfl⟩:=he.shape;obtain⟨-,⟨y0,y1,y2⟩,f0,f1,f2⟩:=zl b1;replace he:=Hd he;go_wp2;exact bodyPost_ret (v:=.agg #[.int .i64 q,.slice a1 n1 c1,.slice a2 n2 c2]) (by simp[results,Tryz.results59,go_sem,y0,y1,y2]) rfl ⟨_,rfl,aB (Below.step b0 b1) (by simp) _ _ _,(he.out.j9 (by simp) _ _ _).mono (by simp;omega)⟩
theorem Dy(K R:Nat)(va:Option Addr)(vn vc:Nat)(xs:List Int)(w:World)(h:ae w (.slice va vn vc) xs)(h1:1<=K)(h4:K<=4)(h3:R<=3)(hl:xs.length≠pw K (2*R+1)):
 Calls Tryz.prog 59 #[.agg #[.int .i64 K,.int .i64 R,.slice va vn vc]] w (cz (λx w'=>gw w.heap.size w' (fresh kh 2 1) x) w):=by
 have b0:=Below.step (ab w (.cells #[.int .i64 K,.int .i64 R,.slice va vn vc] 24)) (ab _ (.cells #[.int .i64 0,.slice none 0 0,.slice none 0 0] 36));have hlen:=h.len;have bM:((xs.length:Int) != (pw K (2*R+1):Int))=true:=by rw[bne_iff_ne];omega
 clear h hl;go_enter Tryz.func59,Tryz.ntmps59;go_wp2;go_quiet ((go_at_call 60;exact Calls.quiet_of_same ((lq _ _ K (2*R+1) _ rfl (by omega) h1 h4 (by omega)).mono fun _ _ ⟨a,b⟩=>⟨a,b.symm⟩)));go_wp2_with fail;refine(jC _ _ _ _).mono ?_;rintro e w1 ⟨x,rfl,b1,he⟩;replace b1:=TD b1;obtain⟨q,a1,n1,c1,a2,n2,c2,rfl⟩:=he.shape;obtain⟨-,⟨y0,y1,y2⟩,f0,f1,f2⟩:=zl b1;replace he:Hid (gw ((w.alloc (.cells #[.int .i64 K,.int .i64 R,.slice va vn vc] 24)).alloc (.cells #[.int .i64 0,.slice none 0 0,.slice none 0 0] 36)).heap.size w1 _ _):=Hd he;go_wp2;exact bodyPost_ret (v:=.agg #[.int .i64 q,.slice a1 n1 c1,.slice a2 n2 c2]) (by simp[results,Tryz.results59,go_sem,y0,y1,y2]) rfl ⟨_,rfl,aB (Below.step b0 b1) (by simp) _ _ _,(he.out.j9 (by simp) _ _ _).mono (by simp;omega)⟩
theorem Dt(K R:Nat)(va:Option Addr)(vn vc:Nat)(xs:List Int)(i:Nat)(w:World)(h:ae w (.slice va vn vc) xs)(h1:1<=K)(h4:K<=4)(h3:R<=3)(hl:xs.length=pw K (2*R+1))(hi:idxOf (lR K) xs=i)(C5:i<xs.length):
 Calls Tryz.prog 59 #[.agg #[.int .i64 K,.int .i64 R,.slice va vn vc]] w (cz (λx w'=>gw w.heap.size w' (fresh kh (3+i) 1) x) w):=by
 have b0:=Below.step (ab w (.cells #[.int .i64 K,.int .i64 R,.slice va vn vc] 24)) (ab _ (.cells #[.int .i64 0,.slice none 0 0,.slice none 0 0] 36));have hlen:=h.len;have vh:i<=20000:=by have:=nr (i:=2*R+1) h1 h4 (by omega);omega
 have bM:((xs.length:Int) != (pw K (2*R+1):Int))=false:=by rw[bne_eq_false_iff_eq];omega
 replace h:=Hd (h.below b0);clear hl C5;replace hi:=Hd hi;go_enter Tryz.func59,Tryz.ntmps59;go_wp2;go_quiet ((go_at_call 60;exact Calls.quiet_of_same ((lq _ _ K (2*R+1) _ rfl (by omega) h1 h4 (by omega)).mono fun _ _ ⟨a,b⟩=>⟨a,b.symm⟩)));go_wp2_with fail;refine(M1 K _ xs _ (by exact h.out.drewN _)).mono ?_;rintro e w1 ⟨rfl,rfl⟩;rw[hi.out];go_wp2_with fail;refine(jC _ _ _ _).mono ?_;rintro e w1 ⟨x,rfl,b1,he⟩;replace b1:=TD b1;obtain⟨q,a1,n1,c1,a2,n2,c2,rfl⟩:=he.shape;obtain⟨-,⟨y0,y1,y2⟩,f0,f1,f2⟩:=zl b1;replace he:Hid (gw ((w.alloc (.cells #[.int .i64 K,.int .i64 R,.slice va vn vc] 24)).alloc (.cells #[.int .i64 0,.slice none 0 0,.slice none 0 0] 36)).heap.size w1 _ _):=Hd he;go_wp2;exact bodyPost_ret (v:=.agg #[.int .i64 q,.slice a1 n1 c1,.slice a2 n2 c2]) (by simp[results,Tryz.results59,go_sem,y0,y1,y2]) rfl ⟨_,rfl,aB (Below.step b0 b1) (by simp) _ _ _,(he.out.j9 (by simp) _ _ _).mono (by simp;omega)⟩
theorem F1(K R:Nat)(va:Option Addr)(vn vc:Nat)(xs:List Int)(w:World)(h:ae w (.slice va vn vc) xs)(hr:aG K R xs):
 Calls Tryz.prog 59 #[.agg #[.int .i64 K,.int .i64 R,.slice va vn vc]] w (cz (λx _=>x=lk) w):=by
 have b0:=Below.step (ab w (.cells #[.int .i64 K,.int .i64 R,.slice va vn vc] 24)) (ab _ (.cells #[.int .i64 0,.slice none 0 0,.slice none 0 0] 36));obtain⟨h1,h4,h3,hl,hs⟩:=hr;have hlen:=h.len;have bM:((xs.length:Int) != (pw K (2*R+1):Int))=false:=by rw[bne_eq_false_iff_eq];omega
 replace h:=Hd (h.below b0);clear hl;have hi:=Hd hs.odd;clear hs;go_enter Tryz.func59,Tryz.ntmps59;go_wp2;go_quiet ((go_at_call 60;exact Calls.quiet_of_same ((lq _ _ K (2*R+1) _ rfl (by omega) h1 h4 (by omega)).mono fun _ _ ⟨a,b⟩=>⟨a,b.symm⟩)));go_wp2_with fail;refine(M1 K _ xs _ (by exact h.out.drewN _)).mono ?_;rintro e w1 ⟨rfl,rfl⟩;rw[hi.out];go_wp2;exact bodyPost_ret (v:=lk) (by simp[results,Tryz.results59,go_sem]) rfl ⟨_,rfl,aB (below_drewN b0 _) (by simp) _ _ _,rfl⟩
theorem ux(k R:Int)(va:Option Addr)(vn vc:Nat)(xs:List Int)(w:World)(h:ae w (.slice va vn vc) xs):
 Calls Tryz.prog 59 #[.agg #[.int .i64 k,.int .i64 R,.slice va vn vc]] w (cz (λx w'=>gw w.heap.size w' (ep k R xs) x) w):=by
 by_cases hk:k<1\/4<k;.rw[ep,if_pos hk];exact J4 k R va vn vc w hk
 obtain⟨K,rfl⟩:=Int.eq_ofNat_of_zero_le (show 0<=k by omega);by_cases hr:R<0\/3<R;.rw[ep,if_neg hk,if_pos hr];exact Kc K R va vn vc w (by omega) (by omega) hr
 obtain⟨R,rfl⟩:=Int.eq_ofNat_of_zero_le (show 0<=R by omega);by_cases hl:xs.length=pw K (2*R+1)
 .rcases FO K xs with hs | ⟨i,hi,aT⟩;.have bK:aG K R xs:=⟨by omega,by omega,by omega,hl,hs⟩;rw[bK.check];exact(F1 K R va vn vc xs w h bK).mono fun _ _ ⟨x,a,b,c⟩=>⟨x,a,b,c⟩
  .have:ep K R xs=fresh kh (3+i) 1:=by
    rw[ep,if_neg hk,if_neg hr,if_neg (by simp[hl]),if_neg (by omega),hi]
   rw[this];exact Dt K R va vn vc xs i w h (by omega) (by omega) (by omega) hl hi aT
 .have:ep K R xs=fresh kh 2 1:=by
   rw[ep,if_neg hk,if_neg hr,if_pos (by simpa using hl)]
  rw[this];exact Dy K R va vn vc xs w h (by omega) (by omega) (by omega) hl
theorem mul3{x s:Int}(hx:0<=x/\x<4)(hs:0<=s/\s<4):0<=x*s/\x*s<=9:=by
 obtain⟨h1,h2⟩:=hx;obtain⟨h3,h4⟩:=hs;have a:x=0\/x=1\/x=2\/x=3:=by omega
 rcases a with rfl | rfl | rfl | rfl<;>omega
theorem YD(K:Nat)(v:Value)(f:List Int)(w:World)(h:ae w v f)(hf:bj K f)(h1:1<=K)(h4:K<=4)(h7:f.length<=7):
 Calls Tryz.prog 49 #[.int .i64 K,v] w (cz (λx w'=>∃a n c,x=.agg #[.int .i64 K,.int .i64 (f.length/2:Nat),.slice a n c]/\aj w.heap.size w' (.slice a n c) (mm K f)) w):=by
 have hl:=h.len;replace hf:=Hd hf;have h0:=Hd h;clear h;go_enter Tryz.func49,Tryz.ntmps49;go_wp2;go_loopw [5,15] (λt i wr=>∃k:Nat,k<=f.length/\i=.int .i64 k/\aj (w.heap.size+1) wr t (mm K (f.take k))/\Below (w.heap.size+1) (w.alloc (.cells #[.int .i64 0,.int .i64 0,.slice none 0 0] 24)) wr) (λ_ i _=>f.length-(intOf i).toNat);case atStart =>
  refine⟨0,by omega,rfl,?_,(Below.refl _ _).alloc (by simp) _⟩;have:=aj.lit (w.heap.size+1) (w.alloc (.cells #[.int .i64 0,.int .i64 0,.slice none 0 0] 24)) (by simp) [0] (by decide) #[.int .i64 0] rfl 1 rfl;simpa [mm,jq] using this
 case round =>
  obtain⟨k,hk,rfl,hT,hb⟩:=hrel;by_cases aT:k<f.length
  .obtain⟨wo,rfl⟩:=Ey wr;have vD:Below w.heap.size w wo:=((Below.refl _ _).alloc (Nat.le_refl _) _).trans (hb.mono (by omega));have RD:=h0.out.below vD;have hi:=RD.idx k aT;have hc:=RD.cell k aT;have Hp:=hf.out f[k] (by simp);have KH:=hT.at;have hTs:bj K (mm K (f.take k)):=PU h1 _;have hTlen:(mm K (f.take k)).length<=16384:=by rw[pJ];exact nr h1 h4 (by simp;omega)
   have hTe:Hid (mm K (f.take (k+1))=fJ K f[k] (mm K (f.take k))):=by
    show _=_;rw[gR f k aT];exact vw ..
   clear hT;generalize mm K (f.take k)=T at hTe hTs hTlen KH;generalize f[k]=x at hTe Hp hc;have hmle:(0:Int)<=(T.length:Int)*(K:Int)/\(T.length:Int)*(K:Int)<=65536:=by
    constructor;.exact Int.mul_nonneg (by omega) (by omega)
    .calc _<=(16384:Int)*4:=Int.mul_le_mul (by omega) (by omega) (by omega) (by omega)
      _=65536:=by decide
   have Az:=KH.len;replace hTs:=Hd hTs;have hmle1:=hmle.1;have hmle2:=hmle.2;clear hmle;go_wp2_with (at_make;refine PJ rfl _ _ rfl _ rfl rfl hmle1 (by omega) ?_);intro nv w2 hn ij;go_wp2;go_loopw [8,26] (λn i wr=>∃j:Nat,j<=T.length/\i=.int .i64 j/\aj wo.heap.size wr n (fJ K x (T.take j))/\Below wo.heap.size wo wr) (λ_ i _=>T.length-(intOf i).toNat);case atStart=>exact⟨0,by omega,rfl,by simpa [HN] using hn,ij⟩
   case round =>
    obtain⟨j,hj,rfl,hN,hbN⟩:=hrel;by_cases dw:j<T.length
    .obtain⟨wi,rfl⟩:=Ey wr;have Mh:=KH.below hbN;have Au:=Mh.idx j dw;have gL:=Mh.cell j dw;have Pv:=hTs.out T[j] (by simp);have hTe2:Hid (fJ K x (T.take (j+1))=fJ K x (T.take j)++iz K x T[j] K):=by
      show _=_;rw[gR T j dw,Gu]
     have hTl2:(fJ K x (T.take j)).length<=65536:=by
      rw[sY];have:(T.take j).length<=16384:=by simp;omega
      calc _<=16384*4:=Nat.mul_le_mul this h4
       _=65536:=by decide
     generalize T[j]=y at hTe2 Pv gL;generalize fJ K x (T.take j)=N at hTe2 hN hTl2;go_wp2;go_loopw [8,31] (λn i wr=>∃s:Nat,s<=K/\i=.int .i64 s/\aj wo.heap.size wr n (N++iz K x y s)/\Below wo.heap.size wo wr) (λ_ i _=>K-(intOf i).toNat);case atStart=>exact⟨0,by omega,rfl,by simpa [iz] using hN,hbN⟩
     case round =>
      obtain⟨s,hs,rfl,hM,ZZ⟩:=hrel;by_cases sD:s<K
      .obtain⟨wj,rfl⟩:=Ey wr;have hb9:=mul3 (x:=x) (s:=s) ⟨Hp.1,by omega⟩ ⟨by omega,by omega⟩;have hb9a:=hb9.1;have hb9b:=hb9.2;clear hb9;have hse:Hid (N++iz K x y (s+1)=(N++iz K x y s)++[(y+x*s)%K]):=by
        show _=_;rw[II,List.append_assoc]
       have hlM:(N++iz K x y s).length<=70000:=by simp[kz];omega
       generalize N++iz K x y s=M at hse hM hlM;go_wp2_with (at_builtin;refine gi rfl _ _ rfl wo.heap.size _ M ((y+x*s)%K) hM rfl rfl (by omega) (ZZ.size) ?_);intro nv' w3 hM' vh _ _;go_wp2;go_roundw;case rel=>exact⟨s+1,by omega,by go_num,by rw[hse.out];exact hM',ZZ.trans vh⟩
       case measure=>simp[intOf];omega
      .obtain rfl:s=K:=by omega
       go_wp2;go_roundw;case rel=>exact⟨j+1,by omega,by go_num,by rw[hTe2.out];exact hM,ZZ⟩
       case measure=>simp[intOf];omega
    .obtain rfl:j=T.length:=by omega
     go_wp2;go_roundw;case rel =>
      refine⟨k+1,by omega,by go_num,?_,hb.trans (hbN.mono (by have:=hb.size;simp at this;omega))⟩;rw[hTe.out];rw[List.take_length] at hN;exact hN.mono (by have:=hb.size;simp at this;omega)
     case measure=>simp[intOf];omega
  .obtain rfl:k=f.length:=by omega
   rw[List.take_length] at hT;have hlen2:0<=(f.length:Int)/2:=by omega
   have qq:wr.cell? ⟨w.heap.size,0,none⟩=some (.int .i64 0):=by rw[hb.cell (by simp)];simp
   have kS:wr.cell? ⟨w.heap.size,1,none⟩=some (.int .i64 0):=by rw[hb.cell (by simp)];simp
   have oU:wr.cell? ⟨w.heap.size,2,none⟩=some (.slice none 0 0):=by rw[hb.cell (by simp)];simp
   have Hk:wr.frozen? ⟨w.heap.size,0,none⟩=false:=by rw[hb.frozen (by simp)];simp
   have PZ:wr.frozen? ⟨w.heap.size,1,none⟩=false:=by rw[hb.frozen (by simp)];simp
   have VX:wr.frozen? ⟨w.heap.size,2,none⟩=false:=by rw[hb.frozen (by simp)];simp
   obtain⟨a,n,c,hv⟩:=hT.at.shape;rw[hv] at hT ⊢;clear hv;go_wp2;refine bodyPost_end (v:=.agg #[.int .i64 K,.int .i64 (f.length/2),.slice a n c]) (by simp[results,Tryz.results49,go_sem,qq,kS,oU]) rfl ⟨_,rfl,?_,a,n,c,by simp,?_⟩;.exact((((Below.refl _ _).alloc (Nat.le_refl _) _).trans (hb.mono (by omega))).setCell (by simp) _ |>.setCell (by simp) _).setCell (by simp) _
   .exact(((hT.al (by simp) _).al (by simp) _).al (by simp) _).mono (by omega)
open Go.RowKit Go.Extern.Stop Go.Stop Go.Extern
namespace Errs
theorem G8(v:Value)(w:World):(ReflectliteType.typeOf #[.iface 273 v]).run Tryz.prog w=.ok (.iface 149 (.agg #[.pointer (some ⟨13,273,none⟩)])) w:=by kernel_rfl
theorem zO(w : World): ((ReflectliteType.method λt=> do Rtype.noPackHeld "Comparable" t;(λa=> Value.bool a.comparable) <$> typeInfo t) #[.agg #[.pointer (some ⟨13, 273, none⟩)]]).run Tryz.prog w = .ok (.bool true) w := by kernel_rfl
theorem qI(v : Value)(w : World): (Go.method 405 149 v "Comparable").run Tryz.prog w = .ok (209, v) w := by kernel_rfl
theorem VF:(Tryz.prog.info? 273).map (·.comparable)=some true:=by kernel_rfl
theorem Tu:(Tryz.prog.info? 293).map (·.size)=some 1:=by kernel_rfl
theorem Po : Tryz.prog.underlying 31 = some (.interface #[("Error", 274)]) := by kernel_rfl
theorem uES:Tryz.prog.underlying 273=some (.pointer 293):=by kernel_rfl
theorem uIs : Tryz.prog.underlying 151 = some (.interface #[("Is", 153)]) := by kernel_rfl
theorem uUnw : Tryz.prog.underlying 154 = some (.interface #[("Unwrap", 89)]) := by kernel_rfl
theorem aaz(v:Value)(xT:TypeId)(w:World):(Instr.typeAssert (.iface 77 v) xT 151 true).run Tryz.prog w=.ok (.tuple #[.nilIface,.bool false]) w:=run_typeAssert_lacksB uIs (by kernel_rfl) (by kernel_rfl) v xT w
theorem wg(v:Value)(xT:TypeId)(w:World):(Instr.typeAssert (.iface 77 v) xT 154 true).run Tryz.prog w=.ok (.tuple #[.iface 77 v,.bool true]) w:=run_typeAssert_hasB uUnw (by kernel_rfl) v xT w
theorem r9(v : Value)(w : World): (Go.method 405 77 v "Unwrap").run Tryz.prog w = .ok (202, v) w := by kernel_rfl
theorem vR(p:Nat)(u:Value)(w:World)(h:w.cell? ⟨p,2,none⟩=some u):
 Calls Tryz.prog 202 #[.pointer (some ⟨p,0,none⟩)] w λe w'=>e=.returned u/\w=w':=by
 go_enter Tryz.func202,Tryz.ntmps202;go_wp2;go_ret;exact⟨rfl,rfl⟩
theorem WS(r:Nat->Addr)(n:Int)(l:List (ByteArray×Int))(v:Value)(w:World)(h:iw r w n l v):
 Calls Tryz.prog 40 #[v,iZ r n,.bool true] w λe w'=>e=.returned (.bool true)/\w=w':=by
 obtain⟨i,hi,KO⟩:=Option.map_eq_some_iff.1 VF;obtain⟨j,hj,YY⟩:=Option.map_eq_some_iff.1 Tu;have heq:=run_eql_iface_ptr_same (P:=Tryz.prog) w (r n.toNat) Po uES hi KO hj;have nF:=aaz;have uF:=wg;have mU:=r9;clear hi KO hj YY;replace h:=Hd h;go_enter Tryz.func40,Tryz.ntmps40;go_wp2;go_loopg [0] l.length (λk u wr=>wr=w/\∃l',l'.length=k/\iw r w n l' u);case atStart=>exact⟨rfl,l,rfl,h.out⟩
 case round =>
  obtain⟨rfl,l',yg,hu⟩:=hrel;match l',yg,hu with
  | [],yg,hu =>
   obtain rfl:_=iZ r n:=hu;clear yg;go_wp2;go_ret;exact⟨rfl,rfl⟩
  | (op,at_)::rest,yg,hu =>
   obtain⟨p,u',rfl,c0,c1,c2,kp⟩:=hu;obtain⟨T,a,rfl⟩:=kp.shape;have hty:=run_eql_iface_types (P:=Tryz.prog) 77 273 (.pointer (some ⟨p,0,none⟩)) (.pointer (some (r n.toNat))) Po (by decide) wr;replace⟨kp,yg⟩:=bD kp yg;go_wp2_with (go_at_call 202;refine(vR p _ _ c2).mono ?_;rintro e w' ⟨rfl,rfl⟩);go_roundg rest.length;case measure=>have:=yg.out;simp at this;omega
   case rel=>exact⟨rfl,rest,rfl,kp.out⟩
theorem B0(r:Nat->Addr)(n:Int)(l:List (ByteArray×Int))(v:Value)(w:World)(h:iw r w n l v):
 Calls Tryz.prog 17 #[v,iZ r n] w λe w'=>e=.returned (.bool true)/\w=w':=by
 have h8:=@run_callFunc_extern Tryz.prog 39 _ Extern.ReflectliteType.typeOf Tryz.func39 (by kernel_rfl) (by kernel_rfl) (by kernel_rfl) (by kernel_rfl);have h32 := @run_callFunc_extern Tryz.prog 209 _ (Extern.ReflectliteType.method λt=> do Extern.Rtype.noPackHeld "Comparable" t;pure (.bool (<-typeInfo t).comparable)) Tryz.func209 (by kernel_rfl) (by kernel_rfl) (by kernel_rfl) (by kernel_rfl);have tT:=G8;have cT:=zO;have mR:=qI;obtain⟨T,a,rfl⟩:=h.shape;replace h:=Hd h;go_enter Tryz.func17,Tryz.ntmps17;go_wp2_with fail;refine(WS r n l _ _ h.out).mono ?_;rintro e w' ⟨rfl,rfl⟩;go_wp2;go_ret;exact⟨rfl,rfl⟩
end Errs
namespace Errs
theorem uF:Tryz.prog.underlying 77=some (.pointer 81):=by kernel_rfl
theorem uU(t:Addr)(w:World):(ReflectliteValue.unpack (.iface 79 (.pointer (some t)))).run Tryz.prog w
 = .ok (.agg #[.pointer (some ⟨13,79,none⟩),.pointer (some ⟨w.heap.size,0,none⟩),.int .u64 150]) (w.alloc (.cells #[.pointer (some t)] 79)):=by kernel_rfl
theorem Gm(a : Addr)(w : World): (ReflectliteValue.methodAny (ReflectliteValue.valueError "reflectlite.Value.Type" 0) (λt _ _ _=> ReflectliteType.toType t) #[.agg #[.pointer (some ⟨13, 79, none⟩), .pointer (some a), .int .u64 150]]).run Tryz.prog w
 = .ok (.iface 149 (.agg #[.pointer (some ⟨13,79,none⟩)])) w:=by kernel_rfl
theorem oN(h : Value)(w : World): (Go.method 405 149 (.agg #[h]) "Kind").run Tryz.prog w = .ok (198, h) w := by kernel_rfl
theorem G5(w:World):((ReflectliteType.abiMethod λt=>(fun a:Nat=>Value.int IntKind.u8 (a:Int)) <$> Rtype.kind t) #[.pointer (some ⟨13,79,none⟩)]).run Tryz.prog w=.ok (.int .u8 22) w:=by kernel_rfl
theorem NG(w:World):((ReflectliteType.abiMethod λt=>(fun a:Nat=>Value.int IntKind.u8 (a:Int)) <$> Rtype.kind t) #[.pointer (some ⟨13,77,none⟩)]).run Tryz.prog w=.ok (.int .u8 22) w:=by kernel_rfl
theorem rlm(z:Sem Value)(f:TypeId->Addr->Nat->Nat->Sem Value)(v:Value):
 ReflectliteValue.method z f #[v]=(do match <-ReflectliteValue.parts v with | none=>z | some (t,a,fl)=>f t a fl (fl%32)):=rfl
theorem yo(a:Addr)(w:World):(ReflectliteValue.parts (.agg #[.pointer (some ⟨13,79,none⟩),.pointer (some a),.int .u64 150])).run Tryz.prog w=.ok (some (79,a,150)) w:=by kernel_rfl
theorem AR(a p:Addr)(W:World)(ha:W.cell? a=some (.pointer (some p))):
 (ReflectliteValue.method (ReflectliteValue.valueError "reflectlite.Value.IsNil" 0) ReflectliteValue.isNil #[.agg #[.pointer (some ⟨13, 79, none⟩), .pointer (some a), .int .u64 150]]).run Tryz.prog W = .ok (.bool false) W := by
 rw[rlm];simp only[Sem.run_bind,yo,Result.andThen];simp[ReflectliteValue.isNil,loadVar,isAgg,underlying,ha,Result.andThen]
theorem oJ(h : Value)(w : World): (Go.method 405 149 (.agg #[h]) "Elem").run Tryz.prog w = .ok (210, .agg #[h]) w := by kernel_rfl
theorem iu(h : Value)(w : World): (Go.method 405 149 (.agg #[h]) "Implements").run Tryz.prog w = .ok (211, .agg #[h]) w := by kernel_rfl
theorem gC(h : Value)(w : World): (Go.method 405 149 (.agg #[h]) "AssignableTo").run Tryz.prog w = .ok (208, .agg #[h]) w := by kernel_rfl
theorem Gc(w:World):(ReflectliteType.method ReflectliteType.elem #[.agg #[.pointer (some ⟨13,79,none⟩)]]).run Tryz.prog w=.ok (.iface 149 (.agg #[.pointer (some ⟨13,77,none⟩)])) w:=by kernel_rfl
theorem pG(w : World): (ReflectliteType.relation "Implements" ReflectliteType.implements_ #[.agg #[.pointer (some ⟨13, 77, none⟩)], .iface 149 (.agg #[.pointer (some ⟨13, 31, none⟩)])]).run Tryz.prog w = .ok (.bool true) w := by kernel_rfl
theorem AZ(v:Value)(w:World):(ReflectliteType.typeOf #[.iface 77 v]).run Tryz.prog w=.ok (.iface 149 (.agg #[.pointer (some ⟨13,77,none⟩)])) w:=by kernel_rfl
theorem tM(w : World): (ReflectliteType.relation "AssignableTo" ReflectliteType.assignableTo #[.agg #[.pointer (some ⟨13, 77, none⟩)], .iface 149 (.agg #[.pointer (some ⟨13, 77, none⟩)])]).run Tryz.prog w = .ok (.bool true) w := by kernel_rfl
theorem Bo(e:Addr)(w:World):(ReflectliteValue.unpack (.iface 77 (.pointer (some e)))).run Tryz.prog w
 = .ok (.agg #[.pointer (some ⟨13,77,none⟩),.pointer (some ⟨w.heap.size,0,none⟩),.int .u64 150]) (w.alloc (.cells #[.pointer (some e)] 77)):=by kernel_rfl
theorem Br(w:World):(Rtype.elem? 79).run Tryz.prog w=.ok (some 77) w:=by kernel_rfl
theorem mkF(p:Addr)(w:World):(ReflectliteValue.mk 77 p ReflectliteValue.flagAddr).run Tryz.prog w=.ok (.agg #[.pointer (some ⟨13,77,none⟩),.pointer (some p),.int .u64 406]) w:=by kernel_rfl
theorem G9(a p:Addr)(W:World)(ha:W.cell? a=some (.pointer (some p))):
 (ReflectliteValue.method (ReflectliteValue.valueError "reflectlite.Value.Elem" 0) ReflectliteValue.elem #[.agg #[.pointer (some ⟨13, 79, none⟩), .pointer (some a), .int .u64 150]]).run Tryz.prog W
   = .ok (.agg #[.pointer (some ⟨13,77,none⟩),.pointer (some p),.int .u64 406]) W:=by
 rw[rlm];simp only[Sem.run_bind,yo,Result.andThen];simp[ReflectliteValue.elem,loadVar,isAgg,underlying,ha,Result.andThen,Br,mkF]
theorem rls(v x:Value):ReflectliteValue.set #[v,x]=(do
 let (some (dst,a,fl),some (src,b,_)):=(<-ReflectliteValue.parts v,<-ReflectliteValue.parts x)
  | unsupported (.noEntry "extern/(internal/reflectlite.Value).Set.zeroValue")
 if fl / ReflectliteValue.flagAddr % 2 == 0 then unsupported (.noEntry "extern/(internal/reflectlite.Value).Set.unaddressable")
 let val <-loadVar src b
 if <-Rtype.directlyAssignable dst src then storeVar dst a val
 else if <-Rtype.implements dst src then
  if (<-Rtype.kind src)==20 then
   match val with
   | .nilIface => unsupported (.noEntry "extern/reflectlite: a nil value of one interface type handed on as a value of another")
   | _=>storeVar dst a val
  else storeVar dst a (.iface src val)
 else panicString ("reflectlite.Set: value of type " ++ (<-Rtype.spelt src) ++ " is not assignable to type " ++ (<-Rtype.spelt dst))
 pure (.tuple #[])):=rfl
theorem GX(a:Addr)(w:World):(ReflectliteValue.parts (.agg #[.pointer (some ⟨13,77,none⟩),.pointer (some a),.int .u64 406])).run Tryz.prog w=.ok (some (77,a,406)) w:=by kernel_rfl
theorem K1(a:Addr)(w:World):(ReflectliteValue.parts (.agg #[.pointer (some ⟨13,77,none⟩),.pointer (some a),.int .u64 150])).run Tryz.prog w=.ok (some (77,a,150)) w:=by kernel_rfl
theorem Fp(w:World):(Rtype.directlyAssignable 77 77).run Tryz.prog w=.ok true w:=by kernel_rfl
theorem setF(ta b e:Addr)(lW:Value)(W:World)(hb:W.cell? b=some (.pointer (some e)))(ht:W.cell? ta=some lW)(hf:W.frozen? ta=false):
 (ReflectliteValue.set #[.agg #[.pointer (some ⟨13,77,none⟩),.pointer (some ta),.int .u64 406],.agg #[.pointer (some ⟨13,77,none⟩),.pointer (some b),.int .u64 150]]).run Tryz.prog W
   = .ok (.tuple #[]) (W.setCell ta (.pointer (some e))):=by
 rw[rls];simp only[Sem.run_bind,GX,K1,Result.andThen];simp[ReflectliteValue.flagAddr,loadVar,isAgg,underlying,hb,Result.andThen,Fp,storeVar,Value.cells,storeCells,Addr.add];rw[run_store Tryz.prog W ta _ _ (by rfl)];simp[ht,hf]
end Errs
namespace Errs
theorem KR(e t:Addr)(lW:Value)(w:World)(hg:w.cell? ⟨12,0,none⟩=some (.iface 149 (.agg #[.pointer (some ⟨13,31,none⟩)])))(L0:w.cell? t=some lW)(Hk:w.frozen? t=false):
 Calls Tryz.prog 33 #[.iface 77 (.pointer (some e)),.iface 79 (.pointer (some t))] w λev w'=>ev=.returned (.bool true)/\w'=((((w.alloc (.cells #[.pointer (some t)] 79)).alloc (.cells #[.pointer (some ⟨13,79,none⟩),.pointer (some ⟨w.heap.size,0,none⟩),.int .u64 150] 133)).alloc (.cells #[.pointer (some ⟨13,79,none⟩),.pointer (some ⟨w.heap.size,0,none⟩),.int .u64 150] 133)).alloc (.cells #[.pointer (some e)] 77)).setCell t (.pointer (some e)):=by
 have h6:=@run_callFunc_extern Tryz.prog 65 _ (λargs=>ReflectliteValue.unpack (args.getD 0 (.tuple #[]))) Tryz.func65 (by kernel_rfl) (by kernel_rfl) (by kernel_rfl) (by kernel_rfl);have h7 := @run_callFunc_extern Tryz.prog 66 _ (ReflectliteValue.methodAny (ReflectliteValue.valueError "reflectlite.Value.Type" 0) (λt _ _ _=> ReflectliteType.toType t)) Tryz.func66 (by kernel_rfl) (by kernel_rfl) (by kernel_rfl) (by kernel_rfl);have h8 := @run_callFunc_extern Tryz.prog 67 _ (ReflectliteValue.method (ReflectliteValue.valueError "reflectlite.Value.IsNil" 0) ReflectliteValue.isNil) Tryz.func67 (by kernel_rfl) (by kernel_rfl) (by kernel_rfl) (by kernel_rfl);have h27:=@run_callFunc_extern Tryz.prog 198 _ (ReflectliteType.abiMethod λt=>do pure (.int .u8 (<-Rtype.kind t))) Tryz.func198 (by kernel_rfl) (by kernel_rfl) (by kernel_rfl) (by kernel_rfl);have h37:=@run_callFunc_extern Tryz.prog 210 _ (ReflectliteType.method ReflectliteType.elem) Tryz.func210 (by kernel_rfl) (by kernel_rfl) (by kernel_rfl) (by kernel_rfl);have h38 := @run_callFunc_extern Tryz.prog 211 _ (ReflectliteType.relation "Implements" ReflectliteType.implements_) Tryz.func211 (by kernel_rfl) (by kernel_rfl) (by kernel_rfl) (by kernel_rfl);have h10:=@run_callFunc_extern Tryz.prog 39 _ ReflectliteType.typeOf Tryz.func39 (by kernel_rfl) (by kernel_rfl) (by kernel_rfl) (by kernel_rfl);have h35 := @run_callFunc_extern Tryz.prog 208 _ (ReflectliteType.relation "AssignableTo" ReflectliteType.assignableTo) Tryz.func208 (by kernel_rfl) (by kernel_rfl) (by kernel_rfl) (by kernel_rfl);have h11 := @run_callFunc_extern Tryz.prog 113 _ (ReflectliteValue.method (ReflectliteValue.valueError "reflectlite.Value.Elem" 0) ReflectliteValue.elem) Tryz.func113 (by kernel_rfl) (by kernel_rfl) (by kernel_rfl) (by kernel_rfl);have h12:=@run_callFunc_extern Tryz.prog 114 _ ReflectliteValue.set Tryz.func114 (by kernel_rfl) (by kernel_rfl) (by kernel_rfl) (by kernel_rfl);have tO:=AZ;have mA:=gC;have aF:=tM;have vF:=Bo;have f6:=uU;have f7:=Gm;have mK:=oN;have mE:=oJ;have mI:=iu;have kFF:=G5;have kF:=NG;have eFF:=Gc;have iF:=pG;have n8:=AR ⟨w.heap.size,0,none⟩ t ((w.alloc (.cells #[.pointer (some t)] 79)).alloc (.cells #[.pointer (some ⟨13,79,none⟩),.pointer (some ⟨w.heap.size,0,none⟩),.int .u64 150] 133)) (by simp);have aT:12<w.heap.size:=World.block_lt_of_cell? _ _ hg;have yT:((w.alloc (.cells #[.pointer (some t)] 79)).alloc (.cells #[.pointer (some ⟨13,79,none⟩),.pointer (some ⟨w.heap.size,0,none⟩),.int .u64 150] 133)).cell? ⟨12,0,none⟩=some (.iface 149 (.agg #[.pointer (some ⟨13,31,none⟩)])):=by
  rw[World.cell?_alloc_lt _ _ ⟨12,0,none⟩ (by simp;omega),World.cell?_alloc_lt _ _ ⟨12,0,none⟩ aT];exact hg
 have ko:t.block<w.heap.size:=World.block_lt_of_cell? _ _ L0;have el:=G9 ⟨w.heap.size,0,none⟩ t (((w.alloc (.cells #[.pointer (some t)] 79)).alloc (.cells #[.pointer (some ⟨13,79,none⟩),.pointer (some ⟨w.heap.size,0,none⟩),.int .u64 150] 133)).alloc (.cells #[.pointer (some ⟨13,79,none⟩),.pointer (some ⟨w.heap.size,0,none⟩),.int .u64 150] 133)) (by rw[World.cell?_alloc_lt _ _ ⟨w.heap.size,0,none⟩ (by simp;omega)];simp);have st:=setF t ⟨w.heap.size+1+1+1,0,none⟩ e lW ((((w.alloc (.cells #[.pointer (some t)] 79)).alloc (.cells #[.pointer (some ⟨13,79,none⟩),.pointer (some ⟨w.heap.size,0,none⟩),.int .u64 150] 133)).alloc (.cells #[.pointer (some ⟨13,79,none⟩),.pointer (some ⟨w.heap.size,0,none⟩),.int .u64 150] 133)).alloc (.cells #[.pointer (some e)] 77))
  (by rw[World.cell?_alloc_at _ _ _ _ (by simp)];rfl)
  (by rw[World.cell?_alloc_lt _ _ t (by simp;omega),World.cell?_alloc_lt _ _ t (by simp;omega),World.cell?_alloc_lt _ _ t (by simp;omega),World.cell?_alloc_lt _ _ t ko];exact L0)
  (by rw[World.frozen?_alloc_old _ _ t (by simp;omega),World.frozen?_alloc_old _ _ t (by simp;omega),World.frozen?_alloc_old _ _ t (by simp;omega),World.frozen?_alloc_old _ _ t (Nat.ne_of_lt ko)];exact Hk);go_enter Tryz.func33,Tryz.ntmps33;go_wp2;refine wp_loop_rounds 1 ?_;rw[rounds_succ];go_wp2;go_ret;exact⟨rfl,rfl⟩
theorem Fb(e t:Addr)(lW:Value)(w:World)(hg:w.cell? ⟨12,0,none⟩=some (.iface 149 (.agg #[.pointer (some ⟨13,31,none⟩)])))(L0:w.cell? t=some lW)(Hk:w.frozen? t=false):
 Calls Tryz.prog 33 #[.iface 77 (.pointer (some e)),.iface 79 (.pointer (some t))] w λev w'=>ev=.returned (.bool true)/\∃w1,Below w.heap.size w w1/\w'=w1.setCell t (.pointer (some e)) :=
 (KR e t lW w hg L0 Hk).mono fun _ _ ⟨h1,h2⟩=>⟨h1,_,((((Below.refl _ _).alloc (Nat.le_refl _) _).alloc (by simp) _).alloc (by simp;omega) _).alloc (by simp;omega) _,h2⟩
end Errs
def oT(w:World):Prop:=w.cell? ⟨12,0,none⟩=some (.iface 149 (.agg #[.pointer (some ⟨13,31,none⟩)]))
theorem oT.below{w w':World}(h:oT w)(hb:Below w.heap.size w w'):oT w':=au hb h
def ky.Fine(t:ky):Prop:=match t with | none=>True | some (n,l)=>1<=n/\n<=11/\l.length<=1000
theorem takeD{P:Program}{ops:Array Oper}{Q:Exit->Act->World->Prop}{md:Region.Mode}{S:World->Prop}{i:Nat}{oi:Oper}{v:Value}{fuel:Nat}{listed:Array Bool}{a:Act}{w:World}(d:Option Tmp)(hi:ops[i]?=some oi)(hd:oi.dst=d)(hs:Region.noSelect ops=true)(hf:Region.free md ops listed i=true)(hr:(Region.ready md ops listed).contains i=true)(hQ:∀c a w,Q (.panic c) (a.put d v) w->Q (.panic c) a w)(hy:YieldsIf P ops S oi v a)(hS:S w)(h:wpAnyH P md ops Q S fuel (listed.setIfInBounds i true) (a.put d v) w):wpAnyH P md ops Q S (fuel+1) listed a w:=by
 subst hd;exact wpAnyH_take hi hs hf hr hQ hy hS h
theorem xg{P:Program}{ops:Array Oper}{Q:Exit->Act->World->Prop}{md:Region.Mode}{i:Nat}{oi:Oper}{v:Value}{fuel:Nat}{listed:Array Bool}{a:Act}{w:World}(d:Option Tmp)(hi:ops[i]?=some oi)(hd:oi.dst=d)(hs:Region.noSelect ops=true)(hf:Region.free md ops listed i=true)(hr:(Region.ready md ops listed).contains i=true)(hQ:∀c a w,Q (.panic c) (a.put d v) w->Q (.panic c) a w)(hy:Yields P ops oi v a)(h:wpAny P md ops Q fuel (listed.setIfInBounds i true) (a.put d v) w):wpAny P md ops Q (fuel+1) listed a w:=by
 subst hd;exact wpAny_take hi hs hf hr hQ hy h
theorem jL{P:Program}{ops:Array Oper}{Q:Exit->Act->World->Prop}{md:Region.Mode}{S:World->Prop}{oi:Oper}{v:Value}{fuel:Nat}{listed:Array Bool}{a a':Act}{w:World}(i:Nat)(d:Tmp)(hS:S w)(h:wpAnyH P md ops (NoPanic Q) S fuel (listed.setIfInBounds i true) a' w)(hi:ops[i]?=some oi:=by exact rfl)(hd:oi.dst=some d:=by exact rfl)(hs:Region.noSelect ops=true:=by kernel_rfl)(hf:Region.free md ops listed i=true:=by kernel_rfl)(hr:(Region.ready md ops listed).contains i=true:=by kernel_rfl)(hw:Region.wanted oi (yielded ops a.tmps)=true:=by rfl)(hy:∀W,S W->(execOp a.eval oi).run P W=.ok (.value v) W:=by intro W' hs;(try subst hs);go_simp;(try with_reducible rfl))(ha:a.put (some d) v=a':=by simp only[pq];exact rfl):
 wpAnyH P md ops (NoPanic Q) S (fuel+1) listed a w:=by
 subst ha;exact takeD (some d) hi hd hs hf hr (λ_ _ _ h=>h) (.inl ⟨hw,hy⟩) hS h
theorem oY{P:Program}{ops:Array Oper}{Q:Exit->Act->World->Prop}{md:Region.Mode}{oi:Oper}{v:Value}{fuel:Nat}{listed:Array Bool}{a a':Act}{w:World}(i:Nat)(d:Tmp)(h:wpAny P md ops (NoPanic Q) fuel (listed.setIfInBounds i true) a' w)(hi:ops[i]?=some oi:=by exact rfl)(hd:oi.dst=some d:=by exact rfl)(hs:Region.noSelect ops=true:=by kernel_rfl)(hf:Region.free md ops listed i=true:=by kernel_rfl)(hr:(Region.ready md ops listed).contains i=true:=by kernel_rfl)(hw:Region.wanted oi (yielded ops a.tmps)=true:=by rfl)(hy:∀W,(execOp a.eval oi).run P W=.ok (.value v) W:=by intro W';go_simp;(try with_reducible rfl))(ha:a.put (some d) v=a':=by simp only[pq];exact rfl):
 wpAny P md ops (NoPanic Q) (fuel+1) listed a w:=by
 subst ha;exact xg (some d) hi hd hs hf hr (λ_ _ _ h=>h) (.inl ⟨hw,hy⟩) h
theorem Y6(q:Addr)(wo wv w:World)(bv:Below wo.heap.size wo wv)(hw:w=wv.drew)(hG:oT wv)(zt:wv.cell? ⟨wo.heap.size,0,none⟩=some (.pointer none))(ft:wv.frozen? ⟨wo.heap.size,0,none⟩=false):
 Calls Tryz.prog 33 #[.iface 77 (.pointer (some q)),.iface 79 (.pointer (some ⟨wo.heap.size,0,none⟩))] w λe w'=>e=.returned (.bool true)/\w'.cell? ⟨wo.heap.size,0,none⟩=some (.pointer (some q))/\Below wo.heap.size wo w':=by
 subst hw;refine(Errs.Fb q ⟨wo.heap.size,0,none⟩ (.pointer none) wv.drew hG zt ft).mono ?_;rintro e w6 ⟨rfl,w5,Ai,rfl⟩;have h5:Below wv.heap.size wv w5:=((Below.refl wv.heap.size wv).drew).trans Ai;refine⟨rfl,World.cell?_setCell_same _ _ _ (au h5 zt),(Below.Af bv h5).setCell (p:=⟨wo.heap.size,0,none⟩) (Nat.le_refl _) _⟩
theorem Ab(w:World):
 Calls Tryz.prog 10 #[.nilIface,lk] w (cz (λx _=>x=.bool true) w):=by
 go_enter Tryz.func10,Tryz.ntmps10;go_wp2;go_ret;exact⟨_,rfl,pF _ _,rfl⟩
theorem Jy(r:Nat->Addr)(n:Int)(l:List (ByteArray×Int))(v e:Value)(w:World)(hg:ck r w)(hG:oT w)(hv:iw r w n l v)(he:EAt w (some (n,l)) e)(h1:1<=n)(h11:n<=11)(hl:l.length<=1000):
 Calls Tryz.prog 10 #[v,e] w (cz (λx _=>x=.bool true) w):=by
 obtain⟨a1,n1,c1,a2,n2,c2,rfl,hs,hi⟩:=he;have b0:=pF w (.cells #[.int .i64 n,.slice a1 n1 c1,.slice a2 n2 c2] 36);have NN:(n==0)=false:=by rw[beq_eq_false_iff_ne];omega
 obtain⟨T,p,rfl⟩:=hv.shape;replace hv:=Hd (hv.below b0);have hg0:=Hd hg;replace hg:=Hd (hg.below b0);replace hG:=Hd (hG.below b0);have sD:=hs.len GP;rw[List.length_map] at sD;replace hs:=Hd (hs.below b0);replace hi:=Hd (hi.below b0);go_enter Tryz.func10,Tryz.ntmps10;go_wp2_with fail;refine(IY r n _ hg.out h1 h11).mono ?_;rintro e w1 ⟨rfl,rfl⟩;go_wp2_with fail;refine(Errs.B0 r n l _ _ hv.out).mono ?_;rintro e w1 ⟨rfl,rfl⟩;have z:(w.alloc (.cells #[.int .i64 n,.slice a1 n1 c1,.slice a2 n2 c2] 36)).cell? ⟨w.heap.size,0,none⟩=some (.int .i64 n)/\(w.alloc (.cells #[.int .i64 n,.slice a1 n1 c1,.slice a2 n2 c2] 36)).cell? ⟨w.heap.size,1,none⟩=some (.slice a1 n1 c1)/\(w.alloc (.cells #[.int .i64 n,.slice a1 n1 c1,.slice a2 n2 c2] 36)).cell? ⟨w.heap.size,2,none⟩=some (.slice a2 n2 c2):=by simp
 obtain⟨W,hW⟩:=Ey (w.alloc (.cells #[.int .i64 n,.slice a1 n1 c1,.slice a2 n2 c2] 36));rw[<-hW] at hv hg hG hs hi z b0 ⊢;clear hW;replace z:=Hd z;go_wp2;go_loopw [0,5] (λu i wr=>∃k:Nat,k<=l.length/\i=.int .i64 k/\iw r wr n (l.drop k) u/\Below W.heap.size W wr) (λ_ i _=>l.length-(intOf i).toNat);case atStart=>exact⟨0,by omega,rfl,hv.out,Below.refl _ _⟩
 case round =>
  obtain⟨k,hk,rfl,hu,hB⟩:=hrel;obtain⟨wo,rfl⟩:=Ey wr;obtain⟨z0,z1,z2⟩:=x8 hB z.out;by_cases sr:k<l.length
  .have hd:l.drop k=l[k]::l.drop (k+1):=List.drop_eq_getElem_cons sr;rw[hd] at hu;generalize D5:l[k]=x at hu;obtain⟨op,at_⟩:=x;obtain⟨q,u',rfl,d0,d1,d2,kp⟩:=hu;have hs':=hs.out.below hB;have C5:=hi.out.below hB;have i1:=hs'.idx GP k (by simpa using sr);have e1:=hs'.cell k (by simpa using sr);have i2:=C5.idx k (by simpa using sr);have e2:=C5.cell k (by simpa using sr);simp only[List.getElem_map,D5] at e1 e2;replace⟨hd,D5,kp⟩:=dO hd D5 kp;clear hs' C5;have gE:=Hd (hG.out.below hB);generalize af (.slice a1 n1 c1) k=A1 at i1 e1;generalize af (.slice a2 n2 c2) k=A2 at i2 e2;have bv:=pF wo (.cells #[.pointer none] 77);have y1:=au bv z1;have y2:=au bv z2;have g0:=au bv d0;have g1:=au bv d1;have s1:=(bv.cell (World.block_lt_of_cell? _ _ e1)).trans e1;have s2:=(bv.cell (World.block_lt_of_cell? _ _ e2)).trans e2;have zt:(wo.alloc (.cells #[.pointer none] 77)).cell? ⟨wo.heap.size,0,none⟩=some (.pointer none):=by simp
   have ft:(wo.alloc (.cells #[.pointer none] 77)).frozen? ⟨wo.heap.size,0,none⟩=false:=by simp
   have gv:=Hd (gE.out.below bv);go_wp2;obtain⟨wv,CR⟩:=Ey (wo.alloc (.cells #[.pointer none] 77));rw[<-CR] at bv y1 y2 g0 g1 s1 s2 zt ft gv ⊢;clear CR;replace⟨z0,z1,z2,d0,d1,d2,e1,e2⟩:=gp z0 z1 z2 d0 d1 d2 e1 e2;refine wp_region_noPanic ?_;refine wp_region_any (by kernel_rfl) ?_;change wpAny _ _ _ _ _ _ _ (World.drew _);refine oY 0 29 ?_;refine oY 1 30 ?_;refine wpAny_ready (rs:=[2]) (by kernel_rfl) (by simp) (AllReady.cons rfl (λK hK=>?_) AllReady.nil);go_simp;go_at_call 33;refine(Y6 ⟨q,0,none⟩ wo wv _ bv rfl gv.out zt ft).mono ?_;rintro e w6 ⟨rfl,p0,b6⟩;refine hK _ _ ?_;clear hK K y1 y2 g0 g1 s1 s2;have p1:=au b6 z1.out;have p2:=au b6 z2.out;have p3:=au b6 d0.out;have p4:=au b6 d1.out;have p5:=(b6.cell (World.block_lt_of_cell? _ _ e1.out)).trans e1.out;have p6:=(b6.cell (World.block_lt_of_cell? _ _ e2.out)).trans e2.out;have p7:=au b6 d2.out;refine wpAny_of_held (S:=λw'=>w'=w6) _ _ _ _ ?_;refine jL 3 32 rfl ?_;refine jL 4 33 rfl ?_;refine jL 5 34 rfl ?_;refine jL 6 35 rfl ?_;refine jL 7 36 rfl ?_;refine jL 8 37 rfl ?_;refine jL 9 38 rfl ?_;refine jL 10 39 rfl ?_;refine jL 11 40 rfl ?_;refine jL 12 41 rfl ?_;refine jL 13 42 rfl ?_;refine jL 14 43 rfl ?_;refine jL 15 44 rfl ?_;refine jL 16 45 rfl ?_;refine jL 17 46 rfl ?_;refine jL 18 47 rfl ?_;refine jL 19 48 rfl ?_;refine jL 20 49 rfl ?_;refine jL 21 50 rfl ?_;refine jL 22 51 rfl ?_;refine jL 23 52 rfl ?_;refine jL 24 53 rfl ?_;refine jL 25 54 rfl ?_;refine jL 26 55 rfl ?_;refine jL 27 56 rfl ?_;refine jL 28 57 rfl ?_;refine jL 29 58 rfl ?_;refine jL 30 59 rfl ?_;refine jL 31 60 rfl ?_;refine wpAnyH_done (by kernel_rfl) ?_ _;refine NoPanic.normal ?_;have uN:=Hd (kp.out.below b6);have Ky:=Hd (Below.Af hB b6);clear p1 p2 p3 p4 p5 p6;go_wp2;go_roundw;case rel=>exact⟨k+1,by omega,by go_num,uN.out,Ky.out⟩
   case measure=>simp[intOf];omega
  .obtain rfl:k=l.length:=by omega
   rw[List.drop_length] at hu;obtain rfl:_=iZ r n:=hu;obtain⟨i,hi,KO⟩:=Option.map_eq_some_iff.1 Errs.VF;obtain⟨j,hj,YY⟩:=Option.map_eq_some_iff.1 Errs.Tu;have heq:=run_eql_iface_ptr_same (P:=Tryz.prog) wo (r n.toNat) Errs.Po Errs.uES hi KO hj;clear hi KO hj YY;have qp:=Hd (hg.out.below hB);have Ut:=Hd (Below.Af b0 hB);go_wp2_with fail;refine(IY r n _ qp.out h1 h11).mono ?_;rintro e w1 ⟨rfl,rfl⟩;go_wp2;go_ret;exact⟨_,rfl,Ut.out,rfl⟩
theorem adp(r:Nat->Addr)(t:ky)(v e:Value)(w:World)(hg:ck r w)(hG:oT w)(hv:bf r w t v)(he:EAt w t e)(ht:t.Fine):
 Calls Tryz.prog 10 #[v,e] w (cz (λx _=>x=.bool true) w):=by
 match t,hv,he,ht with
 | none,hv,he,_ =>
  obtain rfl:=bf.dG hv;obtain rfl:e=lk:=he;exact Ab w
 | some (n,l),hv,he,⟨h1,h11,hl⟩=>exact Jy r n l v e w hg hG hv he h1 h11 hl
theorem uD(op:ByteArray)(at_:Int)(t:ky)(v:Value)(w:World)(h:EAt w t v)(ht:∀n l,t=some (n,l)->1<=n/\1<=l.length/\l.length<=1000):
 Calls Tryz.prog 51 #[.string op,.int .i64 at_,v] w (cz (λx w'=>gw w.heap.size w' (under op at_ t) x) w):=by
 match t,h,ht with
 | none,h,_ =>
  obtain rfl:v=lk:=h;exact pW op at_ w
 | some (n,l),h,ht =>
  obtain⟨h1,h2,h3⟩:=ht n l rfl;exact Bg op at_ n l v w h h1 h2 h3
def F7(K:Nat)(f:List Int)(i:Nat):Int:=Sm (λj=>f.getD j 0*(aV K f.length i).getD j 0) f.length%K
theorem Dl{K:Nat}(hK:1<=K)(f:List Int):mm K f=(List.range (pw K f.length)).map (F7 K f):=by
 refine List.ext_getElem (by simp[pJ]) λi h1 h2=>?_;have hi:i<pw K f.length:=by rw[<-pJ];exact h1
 have h:=Wn K f (aV K f.length i) (aK ..).symm (fM hK _ _);rw[j6 hK _ _ hi] at h;simp only[List.getElem_map,List.getElem_range];rw[F7,<-h];simp[List.getD,h1]
theorem Sq{K:Nat}(h4:K<=4)(u v:Nat->Int)(hu:∀j,0<=u j/\u j<K)(hv:∀j,0<=v j/\v j<K)(n:Nat):0<=Sm (λj=>u j*v j) n/\Sm (λj=>u j*v j) n<=9*n:=by
 induction n with
 | zero=>simp[Sm]
 | succ n ih =>
  rw[Sm];have h1:=hu n;have h2:=hv n;have h3:0<=u n*v n:=Int.mul_nonneg h1.1 h2.1;have h5:u n*v n<=3*3:=Int.mul_le_mul (by omega) (by omega) h2.1 (by omega);omega
theorem prod_bound{K:Nat}(h4:K<=4){x y:Int}(hx:0<=x/\x<K)(hy:0<=y/\y<K):0<=x*y/\x*y<=9:=by
 have h5:x*y<=3*3:=Int.mul_le_mul (by omega) (by omega) hy.1 (by omega);exact⟨Int.mul_nonneg hx.1 hy.1,by omega⟩
theorem EV{ops:Array Oper}{o:Oper}{a:Act}{w:World}{K:Act->World->Prop}{Q:Exit->Act->World->Prop}{Ep:Prop}(jZ:o.guard=none)(s x:Operand)(ho:o.op=.call { callee:=.builtin .append,args:=#[s,x],argTypes:=#[22,22] })(B:Nat)(v:Value)(xs:List Int)(y:Int)(b:Nat)(hs:a.eval s=v)(hx:a.eval x=.slice (some ⟨b,0,none⟩) 1 1)(aO:aj B w v xs)(hc:w.cell? ⟨b,0,none⟩=some (.int .i64 y))(hlen:xs.length<4398046511104)(hB:B<=w.heap.size)(h:∀v' w',aj B w' v' (xs++[y])->Below B w w'->K (a.put o.dst v') w'):
 if Region.wanted o (yielded ops a.tmps)=true then Oper.wp Tryz.prog o a w K Q else Ep:=by
 have hw:Region.wanted o (yielded ops a.tmps)=true:=by simp[Region.wanted,jZ]
 rw[if_pos hw];obtain⟨v',w',hr,h2,h3⟩:=xQ uP w B o.type v _ aO.yB ⟨b,0,none⟩ 1 [.int .i64 y] (by simp) (λj u hj=>by
  obtain⟨hj1,hj2⟩:=List.getElem?_eq_some_iff.1 hj;obtain rfl:j=0:=by simpa using hj1
  simp at hj2;subst hj2;exact hc) (by simp[Value.oneCell']) (by simp;omega) hB;rw[show([.int .i64 y]:List Value).length=1 from rfl] at hr;unfold Oper.wp;simp[execOp,ho,resolve,invoke,builtin,hs,hx,hr,Result.andThen];have nD:aj B w' v' (xs++[y]):=aZ.YW (by simpa using h2);rcases h3 with ⟨_,hg⟩ | ⟨_,hg⟩;.exact h v' w' nD ((Below.refl _ _).grown hg hB (λk hk=>(aO.lt k hk).1))
 .exact h v' w' nD ((Below.refl _ _).grown hg hB (by intro k hk;cases hk))
theorem az.kY{B:Nat}{w w':World}{b:Nat}{x0 x1 x2:Value}(h:az w b x0 x1 x2)(hb:Below B w w')(aT:b<B):az w' b x0 x1 x2:=by
 obtain⟨⟨h0,h1,h2⟩,f0,f1,f2⟩:=h;exact⟨⟨(hb.cell (p:=⟨b,0,none⟩) aT).trans h0,(hb.cell (p:=⟨b,1,none⟩) aT).trans h1,(hb.cell (p:=⟨b,2,none⟩) aT).trans h2⟩,(hb.frozen (p:=⟨b,0,none⟩) aT).trans f0,(hb.frozen (p:=⟨b,1,none⟩) aT).trans f1,(hb.frozen (p:=⟨b,2,none⟩) aT).trans f2⟩
theorem az.vy{w:World}{b b':Nat}{x0 x1 x2:Value}(h:az w b x0 x1 x2)(bM:b'≠b)(i:Nat)(u:Value):az (w.setCell ⟨b',i,none⟩ u) b x0 x1 x2:=by
 obtain⟨⟨h0,h1,h2⟩,f0,f1,f2⟩:=h;refine⟨⟨?_,?_,?_⟩,?_,?_,?_⟩;.rw[World.cell?_setCell_far _ _ _ _ bM];exact h0
 .rw[World.cell?_setCell_far _ _ _ _ bM];exact h1
 .rw[World.cell?_setCell_far _ _ _ _ bM];exact h2
 .simpa using f0
 .simpa using f1
 .simpa using f2
theorem az.YT{w:World}{b:Nat}{x0 x1 x2:Value}(h:az w b x0 x1 x2)(u:Value):az (w.setCell ⟨b,2,none⟩ u) b x0 x1 u:=by
 obtain⟨⟨h0,h1,h2⟩,f0,f1,f2⟩:=h;refine⟨⟨?_,?_,World.cell?_setCell_same _ _ _ h2⟩,?_,?_,?_⟩;.rw[World.cell?_setCell_other _ _ _ _ (by simp)];exact h0
 .rw[World.cell?_setCell_other _ _ _ _ (by simp)];exact h1
 .simpa using f0
 .simpa using f1
 .simpa using f2
theorem Nw(K:Nat)(v:Value)(f:List Int)(w:World)(h:ae w v f)(dS:1<=K)(fs:K<=4)(hl:f.length<=7)(hs:bj K f):
 Calls Tryz.prog 62 #[.int .i64 K,v] w (cz (λx w'=>∃a n c,x=.agg #[.int .i64 K,.int .i64 (f.length/2:Nat),.slice a n c]/\aj w.heap.size w' (.slice a n c) (mm K f)) w):=by
 have hlen:=h.len;have Kp:=nr dS fs (i:=f.length) hl;rw[show((f.length/2:Nat):Int)=(f.length:Int)/2 by omega];have hK0:((K:Int)==0)=false:=by rw[beq_eq_false_iff_ne];omega
 have Yy:¬ (K:Int)=0:=by omega
 have hK2:(0:Int)<K:=by omega
 have hK3:¬ K=0:=by omega
 rw[Dl dS];obtain⟨H,hH⟩:=Ey ((f.length:Int)/2);have b0:=Below.step (ab w (.cells #[.int .i64 0,.int .i64 0,.slice none 0 0] 24)) (ab _ (.cells #[.int .i64 K,.int .i64 H,.slice none 0 0] 24));have bx:az ((w.alloc (.cells #[.int .i64 0,.int .i64 0,.slice none 0 0] 24)).alloc (.cells #[.int .i64 K,.int .i64 H,.slice none 0 0] 24)) (w.heap.size+1) (.int .i64 K) (.int .i64 H) (.slice none 0 0):=by simp[az,go_sem]
 have by_:az ((w.alloc (.cells #[.int .i64 0,.int .i64 0,.slice none 0 0] 24)).alloc (.cells #[.int .i64 K,.int .i64 H,.slice none 0 0] 24)) w.heap.size (.int .i64 0) (.int .i64 0) (.slice none 0 0):=by simp[az,go_sem]
 replace⟨h,hs⟩:=bD h hs;go_enter Tryz.func62,Tryz.ntmps62;go_wp2;rw[<-hH];replace hH:=Hd hH;go_loopw [6] (λi wr=>∃m:Nat,m<=pw K f.length/\i=.int .i64 m/\(∃ta tn tc,aj (w.heap.size+2) wr (.slice ta tn tc) ((List.range m).map (F7 K f))/\az wr (w.heap.size+1) (.int .i64 K) (.int .i64 H) (.slice ta tn tc))/\az wr w.heap.size (.int .i64 0) (.int .i64 0) (.slice none 0 0)/\Below w.heap.size w wr) (λi _=>pw K f.length-(intOf i).toNat);case atStart=>exact⟨0,by omega,rfl,⟨none,0,0,aj.nil _ _,bx⟩,by_,b0⟩
 case round =>
  obtain⟨m,hm,rfl,⟨ta,tn,tc,hT,hX⟩,hY,hB⟩:=hrel;obtain⟨wo,rfl⟩:=Ey wr;by_cases AH:m<pw K f.length
  .go_wp2_with fail;refine(lq _ _ K f.length _ rfl rfl dS fs hl).mono ?_;rintro e w1 ⟨rfl,rfl⟩;go_wp2_with fail;refine(wO _ _ _ K f.length m _ rfl rfl rfl dS fs hl (by omega)).mono ?_;rintro e w1 ⟨x,rfl,b1,hx⟩;have PZ:=h.out.below (Below.step hB b1);have oQ:(aV K f.length m).length=f.length:=aK ..;have Dh:=fM dS f.length m;replace hT:=Hd (hT.below b1);replace hX:=Hd (hX.below b1);replace hY:=Hd (hY.below b1);have OI:=Hd (Below.step hB b1);have gQ:w.heap.size+2<=w1.heap.size:=by
    have:=World.block_lt_of_cell? _ _ hX.out.1.1;simp at this;omega
   have rU:=hx.at.len;rw[oQ] at rU;replace⟨oQ,Dh,hx,PZ⟩:=gF oQ Dh hx PZ;go_wp2;go_loopw [8,9] (λs j wr=>∃t:Nat,t<=f.length/\j=.int .i64 t/\s=.int .i64 (Sm (λj=>f.getD j 0*(aV K f.length m).getD j 0) t)/\∃n,wr=w1.drewN n) (λ_ j _=>f.length-(intOf j).toNat);case atStart=>exact⟨0,by omega,rfl,rfl,0,rfl⟩
   case round =>
    obtain⟨t,ht,rfl,rfl,n,rfl⟩:=hrel;have yt:=Sq fs (λj=>f.getD j 0) (λj=>(aV K f.length m).getD j 0) (λj=>hs.out.getD (by omega) j) (λj=>Dh.out.getD (by omega) j) t;by_cases ko:t<f.length
    .have i1:=PZ.out.idx t ko;have c1:=PZ.out.aH t ko;have i2:=hx.out.at.idx t (by rw[oQ.out];exact ko);have c2:=hx.out.at.aH t (by rw[oQ.out];exact ko);have hpb:=prod_bound fs (hs.out.getD (by omega) t) (Dh.out.getD (by omega) t);have mT:Hid (Sm (λj=>f.getD j 0*(aV K f.length m).getD j 0) (t+1)=Sm (λj=>f.getD j 0*(aV K f.length m).getD j 0) t+f.getD t 0*(aV K f.length m).getD t 0):=rfl;generalize Sm (λj=>f.getD j 0*(aV K f.length m).getD j 0) t=SS at yt mT;generalize f.getD t 0=p at c1 hpb mT;generalize (aV K f.length m).getD t 0=q at c2 hpb mT;obtain⟨Hq,ZY⟩:=hpb;obtain⟨kZ,ij⟩:=yt;go_wp2;go_quiet (fail);go_wp2;go_roundw;case rel=>exact⟨t+1,by omega,by go_num,by rw[mT.out],_,rfl⟩
     case measure=>simp[intOf];omega
    .obtain rfl:t=f.length:=by omega
     have iM:Hid (Sm (λj=>f.getD j 0*(aV K f.length m).getD j 0) f.length%(K:Int)=F7 K f m):=rfl;generalize Sm (λj=>f.getD j 0*(aV K f.length m).getD j 0) f.length=SS at yt iM;obtain⟨kZ,ij⟩:=yt;go_wp2;obtain⟨W,hW⟩:=Ey ((w1.drewN n).drew);have eT:aj (w.heap.size+2) W (.slice ta tn tc) ((List.range m).map (F7 K f)):=by rw[hW];exact(hT.out.drewN n).drew
     have eX:az W (w.heap.size+1) (.int .i64 K) (.int .i64 H) (.slice ta tn tc):=by rw[hW];exact hX.out.below (below_drewN (Below.refl _ _) n).drew
     have eY:az W w.heap.size (.int .i64 0) (.int .i64 0) (.slice none 0 0):=by rw[hW];exact hY.out.below (below_drewN (Below.refl _ _) n).drew
     have eB:Below w.heap.size w W:=by rw[hW];exact Below.step OI.out (below_drewN (Below.refl _ _) n).drew
     have eS:w.heap.size+2<=W.heap.size:=by rw[hW];exact gQ
     refine wp_region_noPanic ?_;refine wp_region_any (by kernel_rfl) ?_;change wpAny _ _ _ _ _ _ _ (World.drew _);rw[<-hW];clear hW hT hX hY OI;refine oY 0 45 ?_;refine oY 2 47 ?_;refine oY 3 48 ?_;refine oY 4 49 ?_;have eX':=eX;have JC:Hid ((List.range m).map (F7 K f)++[SS.tmod K]=(List.range (m+1)).map (F7 K f)):=by
      show _=_;rw[List.range_succ,List.map_append,Int.tmod_eq_emod_of_nonneg kZ,iM.out];rfl
     obtain⟨⟨ex0,ex1,ex2⟩,eg0,eg1,eg2⟩:=eX';have ex2a:=λo=>eO ex2 o;refine wpAny_ready (rs:=[1,5]) (by kernel_rfl) (by simp) (AllReady.cons rfl (λKK hK=>?_) (AllReady.cons rfl (λKK hK=>?_) AllReady.nil))
     .go_simp;refine hK _ _ ?_;clear hK KK;refine wpAny_ready (rs:=[5]) (by kernel_rfl) (by simp) (AllReady.cons rfl (λKK hK=>?_) AllReady.nil);go_simp;refine hK _ _ ?_;clear hK KK;refine wpAny_ready (rs:=[6]) (by kernel_rfl) (by simp) (AllReady.cons rfl (λKK hK=>?_) AllReady.nil);refine EV rfl _ _ rfl (w.heap.size+2) (.slice ta tn tc) ((List.range m).map (F7 K f)) (SS.tmod K) W.heap.size rfl rfl (eT.alloc _) (by simp) (by simp;omega) (by simp;omega) ?_;intro v' w' Sj nh;refine hK _ _ ?_;clear hK KK;obtain⟨Dc,JA,HQ,rfl⟩:=Sj.at.shape;have X':=(eX.alloc _).kY nh (show w.heap.size+1<w.heap.size+2 by omega);have Y':=(eY.alloc _).kY nh (show w.heap.size<w.heap.size+2 by omega);have B':=(Below.FE eB _).trans (nh.mono (show w.heap.size<=w.heap.size+2 by omega));have NX:=Sj.al (a:=⟨w.heap.size+1,2,none⟩) (show w.heap.size+1<w.heap.size+2 by omega) (.slice Dc JA HQ);rw[JC.out] at NX;have Xn:=X'.YT (.slice Dc JA HQ);have Yn:=Y'.vy (show w.heap.size+1≠w.heap.size by omega) 2 (.slice Dc JA HQ);have Bn:=B'.setCell (p:=⟨w.heap.size+1,2,none⟩) (show w.heap.size<=w.heap.size+1 by omega) (.slice Dc JA HQ);obtain⟨⟨ey0,ey1,ey2⟩,eh0,eh1,eh2⟩:=X';replace⟨NX,Xn,Yn,Bn⟩:=gF NX Xn Yn Bn;clear Sj Y' B' nh ex0 ex1 ex2 eg0 eg1 eg2 ex2a;refine xg (i:=7) (v:=?_) (some 52) rfl rfl (by kernel_rfl) (by kernel_rfl) (by kernel_rfl) (λ_ _ _ h=>h) (Or.inl ⟨by rfl,?_⟩) ?_;rotate_left;.intro _;go_simp;try with_reducible rfl
      simp only[Act.put,List.setIfInBounds_toArray];refine wpAny_ready (rs:=[8]) (by kernel_rfl) (by simp) (AllReady.cons rfl (λKK hK=>?_) AllReady.nil);go_simp;refine hK _ _ ?_;clear hK KK;refine wpAny_done (by kernel_rfl) ?_ _;refine NoPanic.normal ?_;go_wp2;go_roundw;case rel=>exact⟨m+1,by omega,by go_num,⟨Dc,JA,HQ,NX.out,Xn.out⟩,Yn.out,Bn.out⟩
      case measure=>simp[intOf];omega
     .go_simp;refine hK _ _ ?_;clear hK KK;refine wpAny_ready (rs:=[1]) (by kernel_rfl) (by simp) (AllReady.cons rfl (λKK hK=>?_) AllReady.nil);go_simp;refine hK _ _ ?_;clear hK KK;refine wpAny_ready (rs:=[6]) (by kernel_rfl) (by simp) (AllReady.cons rfl (λKK hK=>?_) AllReady.nil);refine EV rfl _ _ rfl (w.heap.size+2) (.slice ta tn tc) ((List.range m).map (F7 K f)) (SS.tmod K) W.heap.size rfl rfl (eT.alloc _) (by simp) (by simp;omega) (by simp;omega) ?_;intro v' w' Sj nh;refine hK _ _ ?_;clear hK KK;obtain⟨Dc,JA,HQ,rfl⟩:=Sj.at.shape;have X':=(eX.alloc _).kY nh (show w.heap.size+1<w.heap.size+2 by omega);have Y':=(eY.alloc _).kY nh (show w.heap.size<w.heap.size+2 by omega);have B':=(Below.FE eB _).trans (nh.mono (show w.heap.size<=w.heap.size+2 by omega));have NX:=Sj.al (a:=⟨w.heap.size+1,2,none⟩) (show w.heap.size+1<w.heap.size+2 by omega) (.slice Dc JA HQ);rw[JC.out] at NX;have Xn:=X'.YT (.slice Dc JA HQ);have Yn:=Y'.vy (show w.heap.size+1≠w.heap.size by omega) 2 (.slice Dc JA HQ);have Bn:=B'.setCell (p:=⟨w.heap.size+1,2,none⟩) (show w.heap.size<=w.heap.size+1 by omega) (.slice Dc JA HQ);obtain⟨⟨ey0,ey1,ey2⟩,eh0,eh1,eh2⟩:=X';replace⟨NX,Xn,Yn,Bn⟩:=gF NX Xn Yn Bn;clear Sj Y' B' nh ex0 ex1 ex2 eg0 eg1 eg2 ex2a;refine xg (i:=7) (v:=?_) (some 52) rfl rfl (by kernel_rfl) (by kernel_rfl) (by kernel_rfl) (λ_ _ _ h=>h) (Or.inl ⟨by rfl,?_⟩) ?_;rotate_left;.intro _;go_simp;try with_reducible rfl
      simp only[Act.put,List.setIfInBounds_toArray];refine wpAny_ready (rs:=[8]) (by kernel_rfl) (by simp) (AllReady.cons rfl (λKK hK=>?_) AllReady.nil);go_simp;refine hK _ _ ?_;clear hK KK;refine wpAny_done (by kernel_rfl) ?_ _;refine NoPanic.normal ?_;go_wp2;go_roundw;case rel=>exact⟨m+1,by omega,by go_num,⟨Dc,JA,HQ,NX.out,Xn.out⟩,Yn.out,Bn.out⟩
      case measure=>simp[intOf];omega
  .obtain rfl:m=pw K f.length:=by omega
   have hY':=hY;obtain⟨⟨y0,y1,y2⟩,g0,g1,g2⟩:=hY';obtain⟨⟨x0,x1,x2⟩,-,-,-⟩:=hX;replace⟨hT,hB⟩:=bD hT hB;go_wp2_with fail;refine(lq _ _ K f.length _ rfl rfl dS fs hl).mono ?_;rintro e w1 ⟨rfl,rfl⟩;go_wp2;refine bodyPost_ret (v:=.agg #[.int .i64 K,.int .i64 H,.slice ta tn tc]) (by simp[results,Tryz.results62,go_sem,y0,y1,y2]) rfl ⟨_,rfl,aB hB.out (Nat.le_refl _) _ _ _,ta,tn,tc,by rw[hH.out],?_⟩;exact(((hT.out.al (a:=⟨w.heap.size,0,none⟩) (by simp) _).al (a:=⟨w.heap.size,1,none⟩) (by simp) _).al (a:=⟨w.heap.size,2,none⟩) (by simp) _).mono (by omega)
theorem of_ok(K R:Nat)(v:Value)(xs:List Int)(w:World)(h:ae w v xs)(hr:aG K R xs):
 Calls Tryz.prog 21 #[.agg #[.int .i64 K,.int .i64 R,v]] w (vf (λx y z w'=>z=.nilIface/\y=.bool (ir K R xs)/\(ir K R xs=true->aj w.heap.size w' x (jJ K R xs))/\(ir K R xs=false->x=.slice none 0 0)) w):=by
 obtain⟨va,vn,vc,hv⟩:=h.shape;subst hv;have sl:=(Below.refl w.heap.size w).alloc (Nat.le_refl _) (.cells #[.int .i64 K,.int .i64 R,.slice va vn vc] 24);have h0:=Hd (h.below sl);clear h;have dS:=hr.k1;have fs:=hr.k4;have dP:=hr.r3;replace hr:=Hd hr;obtain⟨n,hn⟩:=Ey (2*R+1);have hn7:n<=7:=by omega
 have WV:(2*(R:Int)+1)=(n:Int):=by omega
 replace hn:=Hd hn;go_enter Tryz.func21,Tryz.ntmps21;go_wp2_with fail;refine(Cm K R _ xs _ h0.out hr.out).mono ?_;rintro e w1 ⟨x,rfl,hb,rfl⟩;obtain⟨z0,z1,z2,f0,f1,f2⟩:=oD hb;go_wp2_with (at_make;refine me rfl _ _ rfl _ rfl rfl (by omega) (by omega) ?_);intro fv w2 ho ij;clear z0 z1 z2 f0 f1 f2;have Dr:∀w',(Builtin.len_ #[22] 3 #[fv]).run Tryz.prog w'=.ok (.int .i64 n) w':=by have:=ho.at.len;rwa [List.length_replicate] at this
 go_wp2;go_loopw [7,22] (λg i wr=>∃j:Nat,j<=n/\i=.int .i64 j/\g=.int .i64 (wI K j)/\aj w1.heap.size wr fv (uW K n xs j)/\Below w1.heap.size w1 wr) (λ_ i _=>n-(intOf i).toNat);case atStart=>exact⟨0,by omega,rfl,by unfold wI;split<;>rfl,by rw[Rl];exact ho,ij⟩
 case round =>
  obtain⟨j,hj,rfl,rfl,ho,hbr⟩:=hrel;obtain⟨wo,rfl⟩:=Ey wr;have vD:=hb.trans (hbr.mono hb.size);obtain⟨z0,z1,z2,f0,f1,f2⟩:=oD vD;by_cases aT:j<n
  .by_cases hK:1<K
   .have rU:pw K j<xs.length:=by rw[hr.out.len,<-hn.out];exact ZG hK aT
    have ha:=h0.out.below vD;have i1:=ha.idx (pw K j) rU;have c1:=ha.cell (pw K j) rU;have i2:∀w',(Instr.indexAt 22 fv (.int .i64 ((n:Int)-1-(j:Int)))).run Tryz.prog w'=.ok (.pointer (some (af fv (n-1-j)))) w':=by
     intro w';have:=ho.at.Mi ((n:Int)-1-(j:Int)) (by omega) (by rw[jT];omega) w';rwa [show((n:Int)-1-(j:Int)).toNat=n-1-j by omega] at this
    have c2:=ho.at.cell (n-1-j) (by rw[jT];omega);have g2:=ho.mQ (n-1-j) (by rw[jT];omega);have gI:=Hd (ho.set (n-1-j) (by rw[jT];omega) xs[pw K j]);have hsb:=Hd (ho.dB hbr (n-1-j) (by rw[jT];omega) (.int .i64 xs[pw K j]));have bM:∀o,(af fv (n-1-j)=⟨w.heap.size,o,none⟩)=False:=by
     intro o;have It:=ho.jP (n-1-j) (by rw[jT];omega);have hs:=hb.size;simp at hs;apply eq_false;intro e;rw[e] at It;simp at It;omega
    have hfe:Hid ((uW K n xs j).set (n-1-j) xs[pw K j]=uW K n xs (j+1)):=by
     show _=_;simp only[uW,if_pos hK];exact QS K n xs j aT rU
    have hwj:wI K j=pw K j:=if_pos hK;have hwj1:Hid (wI K (j+1)=pw K j*K):=by show _=_;rw[wI,if_pos hK,dW]
    rw[hwj];clear hwj;have kZ:0<=(pw K j:Int)*(K:Int):=Int.mul_nonneg (by omega) (by omega);have ij:(pw K j:Int)*(K:Int)<=16384:=by
     have:=nr (i:=j+1) dS fs (by omega);rw[dW] at this;exact_mod_cast this
    go_wp2;go_roundw;case rel =>
     refine⟨j+1,by omega,by go_num,by rw[hwj1.out];simp,?_,hsb.out⟩;rw[<-hfe.out];exact gI.out
    case measure=>simp[intOf];omega
   .have hfe:Hid (uW K n xs (j+1)=uW K n xs j):=by show _=_;simp only[uW,if_neg hK]
    have hwj1:Hid (wI K (j+1)=1):=if_neg hK;have hwj:wI K j=1:=if_neg hK;rw[hwj];clear hwj;have Yy:K=1:=by omega
    clear hK;have hKK:(K:Int)<=1:=by omega
    have hKK1:(1:Int)<=K:=by omega
    clear Yy;go_wp2;go_roundw;case rel =>
     refine⟨j+1,by omega,by go_num,?_,by rw[hfe.out];exact ho,hbr⟩;rw[hwj1.out]
    case measure=>simp[intOf];omega
  .obtain rfl:j=n:=by omega
   have ha:=h0.out.below vD;have hfac:uW K j xs j=jJ K R xs:=by rw[hn.out];rfl
   rw[hfac] at ho;clear hfac;replace⟨ha,ho⟩:=bD ha ho;have GW:=Hd (yM hr.out);have gQ:w.heap.size<wo.heap.size:=World.block_lt_of_cell? _ _ z0;have hf7:(jJ K R xs).length<=7:=by rw[mX];omega
   have hfd:=XA;go_wp2;go_region_held3 (λw'=>w'.cell? ⟨w.heap.size,0,none⟩=some (.int .i64 K)/\w'.cell? ⟨w.heap.size,2,none⟩=some (.slice va vn vc)) (go_keep)
    (first | (go_at_call 49;refine(YD K fv (jJ K R xs) _ (by exact ho.out.at) GW.out dS fs hf7).mono ?_;rintro e w3 ⟨x,rfl,vh,ua,un,uc,rfl,hu⟩;have y0:=(vh.cell (p:=⟨w.heap.size,0,none⟩) (by simp;omega)).trans z0;have y2:=(vh.cell (p:=⟨w.heap.size,2,none⟩) (by simp;omega)).trans z2) | (go_at_call 48;refine(Rh _ _ (mm K (jJ K R xs)) xs _ (by exact hu.at) (by exact ha.out.drew.below vh)).mono ?_;rintro e w4 hq;obtain⟨rfl,C4⟩:=hq.below;have y4:=(C4.cell (p:=⟨w.heap.size,0,none⟩) (World.block_lt_of_cell? _ _ y0)).trans y0;have y5:=(C4.cell (p:=⟨w.heap.size,2,none⟩) (World.block_lt_of_cell? _ _ y2)).trans y2));have NJ:Below w.heap.size w w4:=(sl.trans ((vD.drew.trans (vh.mono (by have:=vD.size;simp at this ⊢;omega))).mono (by simp))).trans (C4.mono (by have:=vh.size;simp at this;omega));have aO:aj w.heap.size w4 fv (jJ K R xs):=(((ho.out.drew).below vh).below C4).mono (by have:=hb.size;simp at this;omega);replace⟨NJ,aO⟩:=bD NJ aO;clear y0 y2 y4 y5 hq;cases hs:ir K R xs;.rw[show decide (mm K (jJ K R xs)=xs)=false from hs];replace hs:=Hd hs;go_wp2;go_ret3;exact⟨_,_,_,rfl,NJ.out,rfl,(by rw[hs.out];rfl),(λh=>by rw[hs.out] at h;cases h),λ_=>rfl⟩
   .rw[show decide (mm K (jJ K R xs)=xs)=true from hs];replace hs:=Hd hs;go_wp2;go_ret3;exact⟨_,_,_,rfl,NJ.out,rfl,(by rw[hs.out];rfl),λ_=>aO.out,(λh=>by rw[hs.out] at h;cases h)⟩
theorem gw.drew{B:Nat}{w:World}{t:ky}{v:Value}(h:gw B w t v):gw B w.drew t v:=by
 match t,h with
 | none,h=>exact h
 | some (n,l),h=>exact h
theorem wH{k R:Int}{xs:List Int}{t:Int×List (ByteArray×Int)}(h:ep k R xs=some t):t.1=1/\t.2.length=1:=by
 unfold ep fresh at h;split at h;.cases h;exact⟨rfl,rfl⟩
 .split at h;.cases h;exact⟨rfl,rfl⟩
  .split at h;.cases h;exact⟨rfl,rfl⟩
   .split at h;.cases h
    .cases h;exact⟨rfl,rfl⟩
def yJ(K n:Nat)(xs:List Int)(i:Nat):List Int:=(List.range n).map λj=>if j<i then xs.getD (pw K (n-1-j)) 0 else 0
theorem jO(K n:Nat)(xs:List Int)(i:Nat):(yJ K n xs i).length=n:=by simp[yJ]
theorem E1(K n:Nat)(xs:List Int):yJ K n xs 0=List.replicate n 0:=by
 refine List.ext_getElem (by simp[yJ]) λj h1 h2=>?_;simp[yJ]
theorem Qn(K n:Nat)(xs:List Int)(i:Nat):(yJ K n xs i).set i (xs.getD (pw K (n-1-i)) 0)=yJ K n xs (i+1):=by
 refine List.ext_getElem (by simp[yJ]) λj h1 h2=>?_;rw[List.getElem_set];simp only[yJ,List.getElem_map,List.getElem_range];by_cases e:i=j;.subst e;simp
 .rw[if_neg e];by_cases c:j<i;.rw[if_pos c,if_pos (by omega)]
  .rw[if_neg c,if_neg (by omega)]
theorem Vz{K R:Nat}(hK:1<K)(xs:List Int):yJ K (2*R+1) xs (2*R+1)=jJ K R xs:=by
 unfold jJ uW zj yJ;rw[if_pos hK];refine List.map_congr_left λj hj=>?_;have:=List.mem_range.1 hj;rw[if_pos this,if_pos (by omega)]
theorem Ui{K R:Nat}(hK:¬ 1<K)(xs:List Int):jJ K R xs=List.replicate (2*R+1) 0:=by
 unfold jJ uW;rw[if_neg hK]
theorem XB(K R:Nat)(va:Option Addr)(vn vc:Nat)(xs:List Int)(w:World)(h:ae w (.slice va vn vc) xs)(hr:aG K R xs):
 Calls Tryz.prog 29 #[.agg #[.int .i64 K,.int .i64 R,.slice va vn vc]] w (vf (λx y z w'=>z=lk/\y=.bool (ir K R xs)/\(ir K R xs=true->aj w.heap.size w' x (jJ K R xs))/\(ir K R xs=false->x=.slice none 0 0)) w):=by
 have b0:=Below.step (ab w (.cells #[.int .i64 K,.int .i64 R,.slice va vn vc] 24)) (ab _ (.cells #[.int .i64 0,.slice none 0 0,.slice none 0 0] 36));have q7:az ((w.alloc (.cells #[.int .i64 K,.int .i64 R,.slice va vn vc] 24)).alloc (.cells #[.int .i64 0,.slice none 0 0,.slice none 0 0] 36)) (w.heap.size+1) (.int .i64 0) (.slice none 0 0) (.slice none 0 0):=by simp[az,go_sem]
 have q6:az ((w.alloc (.cells #[.int .i64 K,.int .i64 R,.slice va vn vc] 24)).alloc (.cells #[.int .i64 0,.slice none 0 0,.slice none 0 0] 36)) w.heap.size (.int .i64 K) (.int .i64 R) (.slice va vn vc):=by simp[az,go_sem]
 have dS:=hr.k1;have fs:=hr.k4;have dP:=hr.r3;have fK:=Hd hr.check;replace h:=Hd (h.below b0);replace hr:=Hd hr;obtain⟨n,hn⟩:=Ey (2*R+1);have hn7:n<=7:=by omega
 have WV:(2*(R:Int)+1)=(n:Int):=by omega
 replace hn:=Hd hn;go_enter Tryz.func29,Tryz.ntmps29;go_wp2_with fail;refine(ux K R va vn vc xs _ h.out).mono ?_;rintro e w1 ⟨x,rfl,b1,he⟩;rw[fK.out] at he;obtain rfl:x=lk:=he;go_wp2_with fail;refine(pW _ _ _).mono ?_;rintro e w2 ⟨x,rfl,b2,he⟩;obtain rfl:x=lk:=he;go_wp2_with fail;refine(fH 0 none 0 0 none 0 0 _).mono ?_;rintro e w3 ⟨x,rfl,b3,rfl⟩;have AW:=Below.step b1 (Below.step b2 (Below.step (ab w2 (.cells #[.int .i64 0,.slice none 0 0,.slice none 0 0] 36)) b3));have p6:=q6.below AW;have p7:=q7.below AW;have Ut:=Below.step b0 AW;have h3:=Hd (h.out.below AW);have p6x:=p6;obtain⟨⟨z0,z1,z2⟩,-,-,-⟩:=p6x;have p6x:=p6;clear b1 b2 b3 AW;go_wp2_with (at_make;refine me rfl _ _ rfl _ rfl rfl (by omega) (by omega) ?_);intro fv w4 ho b4;rw[<-E1 K n xs] at ho;have p6':=p6x.below b4;obtain⟨⟨z0,z1,z2⟩,-,-,-⟩:=p6';by_cases hK:1<K
 .have hKi:(1:Int)<(K:Int):=by omega
  have Dr:∀w',(Builtin.len_ #[22] 3 #[fv]).run Tryz.prog w'=.ok (.int .i64 n) w':=by have:=ho.at.len;rwa [jO] at this
  go_wp2;go_loopw [8] (λi wr=>∃j:Nat,j<=n/\i=.int .i64 j/\aj w3.heap.size wr fv (yJ K n xs j)/\Below w3.heap.size w3 wr) (λi _=>n-(intOf i).toNat);case atStart=>exact⟨0,by omega,rfl,ho,b4⟩
  case round =>
   clear ho;obtain⟨j,hj,rfl,ho,JV⟩:=hrel;obtain⟨wo,rfl⟩:=Ey wr;by_cases dw:j<n
   .skip;have rU:pw K (n-1-j)<xs.length:=by rw[hr.out.len,<-hn.out];exact ZG hK (by omega)
    have ha:=h3.out.below JV;have i1:=ha.idx (pw K (n-1-j)) rU;have c1:=ha.aH (pw K (n-1-j)) rU;have i2:=ho.at.idx j (by rw[jO];exact dw);have c2:=ho.at.aH j (by rw[jO];exact dw);have g2:=ho.mQ j (by rw[jO];exact dw);have jh:=ho.set j (by rw[jO];exact dw) (xs.getD (pw K (n-1-j)) 0);rw[Qn] at jh;have mo:=ho.dB JV j (by rw[jO];exact dw) (.int .i64 (xs.getD (pw K (n-1-j)) 0));have It:=ho.jP j (by rw[jO];exact dw);have aT:w.heap.size+1<w3.heap.size:=World.block_lt_of_cell? _ _ p7.1.1;have Ae:=h3.out.vq (pw K (n-1-j)) rU;have ne0:(af fv j).block≠w.heap.size:=by omega
    have ne1:(af fv j).block≠(af (.slice va vn vc) (pw K (n-1-j))).block:=by omega
    have r6:=p6.below JV;obtain⟨⟨z0,z1,z2⟩,-,-,-⟩:=r6;generalize xs.getD (pw K (n-1-j)) 0=x at c1 jh mo;generalize (yJ K n xs j).getD j 0=y at c2;generalize af (.slice va vn vc) (pw K (n-1-j))=AX at i1 c1 ne1 Ae;clear ho ha;have EW:Hid (IntKind.i64.wrap ((n:Int)-1)=(n:Int)-1):=db (by omega) (by omega);have hw2:Hid (IntKind.i64.wrap ((n:Int)-1-(j:Int))=(n:Int)-1-(j:Int)):=db (by omega) (by omega);replace⟨jh,mo⟩:=bD jh mo;go_wp2;go_region_held3 (λw'=>w'.cell? ⟨w.heap.size,0,none⟩=some (.int .i64 K)/\w'.cell? ⟨w.heap.size,2,none⟩=some (.slice va vn vc)/\w'.cell? AX=some (.int .i64 x)) (first | exact⟨z0,z2,c1⟩ | go_keep)
     (first | (go_at_call 60;refine(lq _ _ K (n-1-j) _ rfl ?_ dS fs ?_).mono ?_;.rw[EW.out,hw2.out];omega
               .omega
               rintro e w' ⟨rfl,rfl⟩));all_goals
     go_wp2;go_roundw;case rel=>exact⟨j+1,by omega,by go_num,jh.out.drew,mo.out.drew⟩
     case measure=>simp[intOf];omega
   .obtain rfl:j=n:=by omega
    rw[hn.out,Vz hK xs] at ho;have r6:=p6.below JV;have r7:=p7.below JV;have Zz:=Hd (Below.step Ut JV);have hx3:=Hd (h3.out.below JV);obtain⟨⟨z0,z1,z2⟩,-,-,-⟩:=r6;have aT:w.heap.size+1<w3.heap.size:=World.block_lt_of_cell? _ _ p7.1.1;have GW:=Hd (yM hr.out);have hf7:(jJ K R xs).length<=7:=by rw[mX];omega
    have hfl2:(((jJ K R xs).length/2:Nat):Int)=R:=by rw[mX];omega
    replace ho:=Hd ho;have zz0:=Hd z0;have zz1:=Hd z1;have zz2:=Hd z2;go_wp2;go_region_held3 (λw'=>w'.cell? ⟨w.heap.size,0,none⟩=some (.int .i64 K)/\w'.cell? ⟨w.heap.size,1,none⟩=some (.int .i64 R)/\w'.cell? ⟨w.heap.size,2,none⟩=some (.slice va vn vc)) (first | exact⟨z0,z1,z2⟩ | exact⟨s0,s1,s2⟩ | exact⟨t0,t1,t2⟩ | go_keep)
     (first
     | (go_at_call 62;refine(Nw K fv (jJ K R xs) _ ?_ dS fs hf7 GW.out).mono ?_;.exact ho.out.at.drew
        rintro e w5 ⟨x,rfl,b5,ua,un,uc,rfl,hu⟩;have Fa:Below wo.heap.size wo w5:=(Below.refl wo.heap.size wo).drew.trans b5;have s0:=au Fa zz0.out;have s1:=au Fa zz1.out;have s2:=au Fa zz2.out)
     | (go_at_call 61;refine(D3 K _ K R ua un uc va vn vc (mm K (jJ K R xs)) xs _ ?_ ?_).mono ?_;.exact hu.at
        .exact hx3.out.below Fa
        rintro e w6 ⟨_,rfl,b6,rfl⟩;have t0:=au b6 s0;have t1:=au b6 s1;have t2:=au b6 s2));have hyb:=(r7.below Fa).below b6;obtain⟨⟨y0,y1,y2⟩,g0,g1,g2⟩:=hyb;have HL:=Hd (Below.step (Below.step Zz.out Fa) b6);have hoF:=Hd ((ho.out.below Fa).below b6);have SW:w.heap.size<=w3.heap.size:=by omega
    cases gq:ir K R xs;.rw[show decide (mm K (jJ K R xs)=xs)=false from gq];replace gq:=Hd gq;go_wp2;refine bodyPost_ret (v:=.tuple #[.slice none 0 0,.bool false,lk]) (by simp[results,Tryz.results29,go_sem,y0,y1,y2]) rfl ⟨_,_,_,rfl,aB HL.out (Nat.le_succ _) _ _ _,rfl,by rw[gq.out],(λh=>by rw[gq.out] at h;cases h),λ_=>rfl⟩
    .rw[show decide (mm K (jJ K R xs)=xs)=true from gq];replace gq:=Hd gq;go_wp2;refine bodyPost_ret (v:=.tuple #[fv,.bool true,lk]) (by simp[results,Tryz.results29,go_sem,y0,y1,y2]) rfl ⟨_,_,_,rfl,aB HL.out (Nat.le_succ _) _ _ _,rfl,by rw[gq.out],λ_=>?_,(λh=>by rw[gq.out] at h;cases h)⟩;exact(((hoF.out.al (a:=⟨w.heap.size+1,0,none⟩) aT _).al (a:=⟨w.heap.size+1,1,none⟩) aT _).al (a:=⟨w.heap.size+1,2,none⟩) aT _).mono SW
 .have hKi:¬ (1:Int)<(K:Int):=by omega
  have JV:=b4;rw[E1,hn.out,<-Ui hK xs] at ho;have r6:=p6.below JV;have r7:=p7.below JV;have Zz:=Hd (Below.step Ut JV);have hx3:=Hd (h3.out.below JV);obtain⟨⟨z0,z1,z2⟩,-,-,-⟩:=r6;have aT:w.heap.size+1<w3.heap.size:=World.block_lt_of_cell? _ _ p7.1.1;have GW:=Hd (yM hr.out);have hf7:(jJ K R xs).length<=7:=by rw[mX];omega
  have hfl2:(((jJ K R xs).length/2:Nat):Int)=R:=by rw[mX];omega
  replace ho:=Hd ho;have zz0:=Hd z0;have zz1:=Hd z1;have zz2:=Hd z2;go_wp2;go_region_held3 (λw'=>w'.cell? ⟨w.heap.size,0,none⟩=some (.int .i64 K)/\w'.cell? ⟨w.heap.size,1,none⟩=some (.int .i64 R)/\w'.cell? ⟨w.heap.size,2,none⟩=some (.slice va vn vc)) (first | exact⟨z0,z1,z2⟩ | exact⟨s0,s1,s2⟩ | exact⟨t0,t1,t2⟩ | go_keep)
   (first
   | (go_at_call 62;refine(Nw K fv (jJ K R xs) _ ?_ dS fs hf7 GW.out).mono ?_;.exact ho.out.at.drew
      rintro e w5 ⟨x,rfl,b5,ua,un,uc,rfl,hu⟩;have Fa:Below w4.heap.size w4 w5:=(Below.refl w4.heap.size w4).drew.trans b5;have s0:=au Fa zz0.out;have s1:=au Fa zz1.out;have s2:=au Fa zz2.out)
   | (go_at_call 61;refine(D3 K _ K R ua un uc va vn vc (mm K (jJ K R xs)) xs _ ?_ ?_).mono ?_;.exact hu.at
      .exact hx3.out.below Fa
      rintro e w6 ⟨_,rfl,b6,rfl⟩;have t0:=au b6 s0;have t1:=au b6 s1;have t2:=au b6 s2));have hyb:=(r7.below Fa).below b6;obtain⟨⟨y0,y1,y2⟩,g0,g1,g2⟩:=hyb;have HL:=Hd (Below.step (Below.step Zz.out Fa) b6);have hoF:=Hd ((ho.out.below Fa).below b6);have SW:w.heap.size<=w3.heap.size:=by omega
  cases gq:ir K R xs;.rw[show decide (mm K (jJ K R xs)=xs)=false from gq];replace gq:=Hd gq;go_wp2;refine bodyPost_ret (v:=.tuple #[.slice none 0 0,.bool false,lk]) (by simp[results,Tryz.results29,go_sem,y0,y1,y2]) rfl ⟨_,_,_,rfl,aB HL.out (Nat.le_succ _) _ _ _,rfl,by rw[gq.out],(λh=>by rw[gq.out] at h;cases h),λ_=>rfl⟩
  .rw[show decide (mm K (jJ K R xs)=xs)=true from gq];replace gq:=Hd gq;go_wp2;refine bodyPost_ret (v:=.tuple #[fv,.bool true,lk]) (by simp[results,Tryz.results29,go_sem,y0,y1,y2]) rfl ⟨_,_,_,rfl,aB HL.out (Nat.le_succ _) _ _ _,rfl,by rw[gq.out],λ_=>?_,(λh=>by rw[gq.out] at h;cases h)⟩;exact(((hoF.out.al (a:=⟨w.heap.size+1,0,none⟩) aT _).al (a:=⟨w.heap.size+1,1,none⟩) aT _).al (a:=⟨w.heap.size+1,2,none⟩) aT _).mono SW
theorem K5(K R:Nat)(va:Option Addr)(vn vc:Nat)(T:List Int)(u:Value)(ys:List Int)(w:World)(h:ae w (.slice va vn vc) T)(hr:aG K R T)(hu:ae w u ys)(hy:bj K ys)(Gb:ys.length=2*R+1):
 Calls Tryz.prog 170 #[.agg #[.int .i64 K,.int .i64 R,.slice va vn vc],u] w (cz (λx _=>x=.int .i64 (T.getD (aI K ys) 0)) w):=by
 have sl:=ab w (.cells #[.int .i64 K,.int .i64 R,.slice va vn vc] 24);have hR:=hr.r3;have dS:=hr.k1;have fs:=hr.k4;have l1:=hu.len;have hb7:ys.length<=7:=by omega
 have xK:aI K ys<T.length:=by rw[hr.len,<-Gb];exact gH ys hy
 generalize Xg:T.getD (aI K ys) 0=y0;replace⟨Xg,xK,Gb⟩:=dO Xg xK Gb;replace h:=Hd (h.below sl);replace hu:=Hd (hu.below sl);replace⟨hy,hr⟩:=bD hy hr;obtain⟨ua,un,uc,rfl⟩:=hu.out.shape;go_enter Tryz.func170,Tryz.ntmps170;go_wp2;go_loop [5,10] (λn i=>∃j:Nat,j<=ys.length/\i=.int .i64 j/\n=.int .i64 (aI K (ys.take j))) (λ_ i=>ys.length-(intOf i).toNat);case atStart=>exact⟨0,by omega,rfl,rfl⟩
 case round =>
  obtain⟨j,hj,rfl,rfl⟩:=hrel;by_cases dw:j<ys.length
  .have i1:=hu.out.idx j dw;have c1:=hu.out.cell j dw;have hx:=hy.out ys[j] (by simp);have hn:Hid (aI K (ys.take (j+1))=aI K (ys.take j)*K+ys[j].toNat):=by
    show _=_;rw[gR ys j dw,cp]
   have vm:aI K (ys.take j)<=16384:=by
    have h1:=gH (ys.take j) (λx hx=>hy.out x (List.mem_of_mem_take hx));have h2:=nr dS fs (i:=(ys.take j).length) (by simp;omega);omega
   generalize ys[j]=x at c1 hx hn;generalize aI K (ys.take j)=N at hn vm;have hm1:0<=(N:Int)*(K:Int):=Int.mul_nonneg (by omega) (by omega);have qD:(N:Int)*(K:Int)<=65536:=by
    have:N*K<=65536:=Nat.mul_le_mul vm fs;have h2:=Int.ofNat_le.2 this;rw[Int.natCast_mul] at h2;exact h2
   go_wp2;go_round;case rel=>exact⟨j+1,by omega,by go_num,by rw[hn.out];go_num⟩
   case measure=>simp[intOf];omega
  .obtain rfl:j=ys.length:=by omega
   rw[List.take_length];have i2:=h.out.idx (aI K ys) xK.out;have c2:=h.out.aH (aI K ys) xK.out;rw[Xg.out] at c2;clear Xg xK;generalize aI K ys=N at i2 c2;go_wp2;go_ret;exact⟨_,rfl,sl,rfl⟩
def rf(K n:Nat)(s:List Int->Int)(m:Nat):List Int:=(List.range m).map λx=>s (aV K n x)
theorem rF(K n:Nat)(s:List Int->Int)(m:Nat):(rf K n s m).length=m:=by simp[rf]
theorem Qg(K n:Nat)(s:List Int->Int)(m P:Nat)(h:m<P):(rf K n s m++List.replicate (P-m) (0:Int)).set m (s (aV K n m))=rf K n s (m+1)++List.replicate (P-(m+1)) 0:=by
 rw[List.set_append_right _ _ (by rw[rF];exact Nat.le_refl _),rF,Nat.sub_self,show P-m=(P-(m+1))+1 by omega,List.replicate_succ,List.set_cons_zero,rf,rf,List.range_succ,List.map_append,List.append_assoc];rfl
theorem OC(K R F:Nat)(c1 c2:Value)(s:List Int->Int)(w:World)(dS:1<=K)(fs:K<=4)(hR:R<=3)(eg:∀args w,(callFunc F args).run Tryz.prog w=.ok (.enter F args) w)(hF:∀(v:Value) (ys:List Int) (w':World),Below w.heap.size w w'->ae w' v ys->bj K ys->ys.length=2*R+1->Calls Tryz.prog F #[v,c1,c2] w' (cz (λx _=>x=.int .i64 (s ys)) w')):
 Calls Tryz.prog 168 #[.int .i64 K,.int .i64 R,.func (.func F) #[] #[c1,c2]] w (cz (λx w'=>∃a n c,x=.agg #[.int .i64 K,.int .i64 R,.slice a n c]/\aj w.heap.size w' (.slice a n c) (rf K (2*R+1) s (pw K (2*R+1)))) w):=by
 have Kp:=nr dS fs (i:=2*R+1) (by omega);replace hF:=Hd hF;go_enter Tryz.func168,Tryz.ntmps168;go_wp2_with fail;refine(yd K R _ dS fs hR).mono ?_;rintro e w' ⟨rfl,rfl⟩;go_wp2_with fail;have sl:=ab w (.cells #[.int .i64 0,.int .i64 0,.slice none 0 0] 24);obtain⟨tv,w1,Kv,nT,kZ⟩:=bG ((pw K (2*R+1):Nat):Int) (pw K (2*R+1)) (w.alloc (.cells #[.int .i64 0,.int .i64 0,.slice none 0 0] 24)) rfl (by omega);obtain⟨ta,tn,tc,rfl⟩:=nT.at.shape;rw[Kv];simp only[Result.andThen];clear Kv;generalize hN:2*R+1=N at *;go_wp2_with fail;obtain⟨wv,w2,hmk2,jK,ij⟩:=bG (2*(R:Int)+1) N (w1.alloc (.cells #[.int .i64 K,.int .i64 R,.slice ta tn tc] 24)) (by omega) (by omega);obtain⟨wa,wn,wc,rfl⟩:=jK.at.shape;rw[hmk2];simp only[Result.andThen];clear hmk2;obtain⟨z0,z1,z2,-,-,-⟩:=oD ij;have lt:=(nT.at.len);rw[List.length_replicate] at lt;have hN7:N<=7:=by omega
 replace hN:=Hd hN;have ltb:∀k,(Value.slice ta tn tc).ownBlock=some k->k<w1.heap.size:=λk hk=>(nT.lt k hk).2;have lwn:=jK.at.len;rw[List.length_replicate] at lwn;have ho1':=Hd ((nT.alloc (.cells #[.int .i64 K,.int .i64 R,.slice ta tn tc] 24)).below ij);have zz:=Hd (And.intro z0 (And.intro z1 z2));have vD:=Hd (kZ.trans ((Below.step (ab w1 (.cells #[.int .i64 K,.int .i64 R,.slice ta tn tc] 24)) ij).mono kZ.size));replace⟨jK,ltb⟩:=bD jK ltb;have hsz1:=kZ.size;simp at hsz1;have hM:pw K N=pw K N:=rfl;clear hM;go_wp2;go_loopw [32] (λi wr=>∃m:Nat,m<=pw K N/\i=.int .i64 m/\aj (w.heap.size+1) wr (.slice ta tn tc) (rf K N s m++List.replicate (pw K N-m) 0)/\(∃p:List Int,p.length=N/\aj (w1.heap.size+1) wr (.slice wa wn wc) p) /\
  (wr.cell? ⟨w1.heap.size,0,none⟩=some (.int .i64 K)/\wr.cell? ⟨w1.heap.size,1,none⟩=some (.int .i64 R)/\wr.cell? ⟨w1.heap.size,2,none⟩=some (.slice ta tn tc)) /\
  Below (w.heap.size+1) (w.alloc (.cells #[.int .i64 0,.int .i64 0,.slice none 0 0] 24)) wr) (λi _=>pw K N-(intOf i).toNat);case atStart=>exact⟨0,by omega,rfl,by simpa [rf] using ho1'.out,⟨List.replicate N 0,by simp,by simpa using jK.out⟩,zz.out,by simpa using vD.out⟩
 case round =>
  obtain⟨m,hm,rfl,hT,⟨p,hp,hP⟩,hz,hbO⟩:=hrel;obtain⟨wo,rfl⟩:=Ey wr;replace⟨hz,hT⟩:=bD hz hT;by_cases AH:m<pw K N
  .have hsz2:w1.heap.size<wo.heap.size:=World.block_lt_of_cell? _ _ hz.out.1;have hK0:((K:Int)==0)=false:=by rw[beq_eq_false_iff_ne];omega
   have Yy:¬ (K:Int)=0:=by omega
   have hK2:(0:Int)<K:=by omega
   go_wp2;go_loopw [12,38] (λx i wr=>∃j:Nat,j<=N/\i=.int .i64 j/\x=.int .i64 (m/pw K j:Nat)/\aj (w1.heap.size+1) wr (.slice wa wn wc) (p.take (N-j)++(aV K N m).drop (N-j))/\Below (w1.heap.size+1) wo wr) (λ_ i _=>N-(intOf i).toNat);case atStart=>exact⟨0,by omega,rfl,by simp[pw],by rw[Nat.sub_zero,List.drop_of_length_le (by rw[aK];exact Nat.le_refl _),List.append_nil,List.take_of_length_le (by omega)];exact hP,Below.refl _ _⟩
   case round =>
    obtain⟨j,hj,rfl,rfl,hO,AU⟩:=hrel;obtain⟨wi,rfl⟩:=Ey wr;by_cases dw:j<N
    .have tp:(p.take (N-j)++(aV K N m).drop (N-j)).length=N:=by simp[aK];omega
     have i1:∀w',(Instr.indexAt 22 (.slice wa wn wc) (.int .i64 ((N:Int)-1-(j:Int)))).run Tryz.prog w'=.ok (.pointer (some (af (.slice wa wn wc) (N-1-j)))) w':=by
      intro w';have:=hO.at.Mi ((N:Int)-1-(j:Int)) (by omega) (by rw[tp];omega) w';rwa [show((N:Int)-1-(j:Int)).toNat=N-1-j by omega] at this
     have c1:=hO.at.aH (N-1-j) (by rw[tp];omega);have f1:=hO.mQ (N-1-j) (by rw[tp];omega);have hS:=hO.set (N-1-j) (by rw[tp];omega) ((m/pw K j%K:Nat):Int);have ql:=hO.dB AU (N-1-j) (by rw[tp];omega) (.int .i64 ((m/pw K j%K:Nat):Int));rw[yU K N m j dw p hp] at hS;replace⟨hS,ql⟩:=bD hS ql;have V0:=@Hd (m/pw K j/K=m/pw K (j+1)) (by rw[Nat.div_div_eq_div_mul,<-dW]);have OQ:m/pw K j<=16384:=Nat.le_trans (Nat.div_le_self _ _) (by omega);generalize (p.take (N-j)++(aV K N m).drop (N-j)).getD (N-1-j) 0=y at c1;clear tp hO;generalize m/pw K j=q at *;rw[Int.natCast_emod] at hS ql;have hd0:0<=(q:Int)/(K:Int):=Int.ediv_nonneg (by omega) (by omega);have hd1:(q:Int)/(K:Int)<=16384:=by
      have h1:q/K<=q:=Nat.div_le_self _ _;have h2:q/K<=16384:=by omega
      exact_mod_cast h2
     have hdw:IntKind.i64.wrap ((q:Int)/(K:Int))=(q:Int)/(K:Int):=db (by omega) (by omega);go_wp2;go_roundw;case rel=>exact⟨j+1,by omega,by go_num,by rw[<-V0.out];simp,hS.out,ql.out⟩
     case measure=>simp[intOf];omega
    .have hjN:j=N:=by omega
     subst hjN;rw[Nat.sub_self,List.take_zero,List.drop_zero,List.nil_append] at hO;have hbW:Below w.heap.size w wi:=((ab w _).trans (hbO.mono (by omega))).trans (AU.mono (by omega));have oU:=AU.cell (p:=⟨w1.heap.size,2,none⟩) (by simp);have Az:m<(rf K j s m++List.replicate (pw K j-m) (0:Int)).length:=by simp[rF];omega
     have Mh:=hT.out.kY AU (λk hk=>by have:=ltb.out k hk;omega);have i2:=Mh.at.idx m Az;have c2:=Mh.at.aH m Az;have f2:=Mh.mQ m Az;have b2:=Mh.at.vq m Az;have z2i:=oU.trans hz.out.2.2;have zbi:(⟨w1.heap.size,2,none⟩:Addr).block<wi.heap.size:=World.block_lt_of_cell? _ _ z2i;generalize (rf K j s m++List.replicate (pw K j-m) (0:Int)).getD m 0=o at c2;replace⟨Mh,hO,hbW,Az⟩:=gF Mh hO hbW Az;clear oU;have Vw:(af (.slice ta tn tc) m).block≠w1.heap.size:=by
      have:=ltb.out _ (hT.out.yB.jP m (by simpa using Az.out)).1;omega
     have oQ:m+1<=pw K j:=AH;go_wp2;go_region_held3 (λw'=>w'.cell? ⟨w1.heap.size,2,none⟩=some (.slice ta tn tc)) (go_keep)
      (first | (refine(hF.out _ (aV K j m) _ (by first | exact hbW.out.drew | exact hbW.out) (by first | exact hO.out.at.drew | exact hO.out.at) (fM dS _ _) (by rw[aK])).mono ?_;rintro e w5 ⟨x5,rfl,Ai,rfl⟩;have y1:=(Ai.cell zbi).trans z2i;have y2:=(Ai.cell b2).trans c2;have y3:=(Ai.frozen b2).trans f2;have bb:Below wi.heap.size wi w5:=((Below.refl _ _).drew).trans Ai));have VZ:=(Mh.out.drew.below Ai).set m Az.out (s (aV K j m));rw[Qg K j s m _ AH] at VZ;have O4:=(hO.out.drew.below Ai).x7 (Mh.out.drew.below Ai) (by
      intro e;have e1:=(hT.out.yB.jP m (by simpa using Az.out)).1;have e2:=(hO.out.lt _ (e.trans e1)).1;have e3:=ltb.out _ e1;omega) m Az.out (.int .i64 (s (aV K j m)));have yD:=((hbO.trans (AU.mono (by omega))).trans (bb.mono (by omega))).setCell ((Mh.out.jP m Az.out)) (.int .i64 (s (aV K j m)));have x0:=(World.cell?_setCell_far w5 (af (.slice ta tn tc) m) ⟨w1.heap.size,0,none⟩ (.int .i64 (s (aV K j m))) Vw).trans (((bb.cell (p:=⟨w1.heap.size,0,none⟩) zbi)).trans ((AU.cell (p:=⟨w1.heap.size,0,none⟩) (by simp)).trans hz.out.1));have x1:=(World.cell?_setCell_far w5 (af (.slice ta tn tc) m) ⟨w1.heap.size,1,none⟩ (.int .i64 (s (aV K j m))) Vw).trans (((bb.cell (p:=⟨w1.heap.size,1,none⟩) zbi)).trans ((AU.cell (p:=⟨w1.heap.size,1,none⟩) (by simp)).trans hz.out.2.1));have x2:=(World.cell?_setCell_far w5 (af (.slice ta tn tc) m) ⟨w1.heap.size,2,none⟩ (.int .i64 (s (aV K j m))) Vw).trans y1;have xx:=Hd (And.intro x0 (And.intro x1 x2));clear x0 x1 x2;replace⟨VZ,O4,yD⟩:=dO VZ O4 yD;go_wp2;go_roundw;case rel=>exact⟨m+1,by omega,by go_num,VZ.out,⟨aV K j m,aK ..,O4.out⟩,xx.out,yD.out⟩
     case measure=>simp[intOf];omega
  .obtain rfl:m=pw K N:=by omega
   rw[Nat.sub_self,List.replicate_zero,List.append_nil] at hT;obtain⟨z0,z1,z2⟩:=hz.out;obtain⟨y0,y1,y2,f0,f1,f2⟩:=oD (w:=w) (show Below (w.alloc (.cells #[.int .i64 0,.int .i64 0,.slice none 0 0] 24)).heap.size _ wo by simpa using hbO);replace hbO:=Hd hbO;go_wp2;refine bodyPost_ret (v:=.agg #[.int .i64 K,.int .i64 R,.slice ta tn tc]) (by simp[results,Tryz.results168,go_sem,y0,y1,y2]) rfl ⟨_,rfl,?_,ta,tn,tc,rfl,?_⟩;.exact(((ab w _).trans (hbO.out.mono (by omega))).setCell (by simp) _).setCell (by simp) _ |>.setCell (by simp) _
   .rw[hN.out];exact(((hT.out.al (a:=⟨w.heap.size,0,none⟩) (by simp) _).al (a:=⟨w.heap.size,1,none⟩) (by simp) _).al (a:=⟨w.heap.size,2,none⟩) (by simp) _).mono (Nat.le_succ _)
theorem US(K R F:Nat)(c1 c2:Value)(s:List Int->Int)(w:World)(dS:1<=K)(fs:K<=4)(hR:R<=3)(Ri:Int)(Yq:Ri=R)(eg:∀args w,(callFunc F args).run Tryz.prog w=.ok (.enter F args) w)(hF:∀(v:Value) (ys:List Int) (w':World),Below w.heap.size w w'->ae w' v ys->bj K ys->ys.length=2*R+1->Calls Tryz.prog F #[v,c1,c2] w' (cz (λx _=>x=.int .i64 (s ys)) w')):
 Calls Tryz.prog 168 #[.int .i64 K,.int .i64 Ri,.func (.func F) #[] #[c1,c2]] w (cz (λx w'=>∃a n c,x=.agg #[.int .i64 K,.int .i64 R,.slice a n c]/\aj w.heap.size w' (.slice a n c) (rf K (2*R+1) s (pw K (2*R+1)))) w):=by
 subst Yq;exact OC K R F c1 c2 s w dS fs hR eg hF
abbrev zR:Value:=.agg #[.int .i64 0,.int .i64 0,.slice none 0 0]
def Tm:ByteArray:=⟨#[102,111,114,109,115]⟩
theorem J2(r:Nat->Addr)(at_:Int)(k R:Int)(va:Option Addr)(vn vc:Nat)(xs:List Int)(w:World)(hg:ck r w)(h:ae w (.slice va vn vc) xs):
 Calls Tryz.prog 144 #[.int .i64 at_,.agg #[.int .i64 k,.int .i64 R,.slice va vn vc]] w (cz (λx w'=>bf r w' (under Tm at_ (ep k R xs)) x) w):=by
 have sl:=ab w (.cells #[.int .i64 k,.int .i64 R,.slice va vn vc] 24);replace hg:=Hd (hg.below sl);replace h:=Hd (h.below sl);go_enter Tryz.func144,Tryz.ntmps144;go_wp2_with fail;refine(ET r k R _ xs _ hg.out h.out).mono ?_;rintro e w1 ⟨x,rfl,hb,he⟩;go_wp2_with fail;refine(om r _ _ _ _ _ he).mono ?_;rintro e w2 ⟨x,rfl,nh,he⟩;go_wp2;go_ret;exact⟨_,rfl,Below.step sl (Below.step hb nh),he⟩
end Go.Proofs.YtgjfejfeoofkhaaGreatDoor
