/-
  Texts that the proof leans on.
-/
import Derived.Test.YtgjfejfeoofkhaaGreatDoorMLr3
import Derived.StillTail
import Derived.Deep.RegionHeld3
import Derived.Deep.DeepCutAuto
import Derived.BigQuiet
import Derived.Deep.QuietTactic
set_option maxHeartbeats 8000000
set_option maxRecDepth 100000
namespace Go.Proofs.YtgjfejfeoofkhaaGreatDoor
section
variable {P:Program} {ops:Array Oper} {Q:Exit->Act->World->Prop} {md:Region.Mode} {S:World->Prop}
def wD(P:Program)(md:Region.Mode)(ops:Array Oper)(Q:Exit->Act->World->Prop)(S:World->Prop)(n:Nat):Nat->Array Bool->Act->World->Prop
 | 0,listed,a,w=>Region.ready md ops listed=[]/\Q .normal a w
 | fuel+1,listed,a,w =>
  (Region.ready md ops listed=[]->Q .normal a w) /\
  ∀i∈Region.ready md ops listed,wpOp P ops Q i (λa' w'=>(i<n->S w')/\wD P md ops Q S n fuel (listed.setIfInBounds i true) a' w') a w
theorem vO{n:Nat}:∀(fuel:Nat) (listed:Array Bool) (a:Act) (w:World),wD P md ops Q S n fuel listed a w->wpAny P md ops Q fuel listed a w
 | 0,_,_,_,h=>h
 | fuel+1,_,_,_,h=>⟨h.1,λi hi=>wpOp_mono (λa' w' h'=>vO fuel _ a' w' h'.2) (h.2 i hi)⟩
theorem zf{n:Nat}:∀(fuel:Nat) (listed:Array Bool) (a:Act) (w:World),(∀j,j<n->listed.getD j true=true)->wpAny P md ops Q fuel listed a w->wD P md ops Q S n fuel listed a w
 | 0,_,_,_,_,h=>h
 | fuel+1,listed,a,w,hl,h=>⟨h.1,λi hi=>wpOp_mono (λa' w' h'=>⟨λou=>Bool.noConfusion ((hl i ou).symm.trans (mem_ready.1 hi).1),zf fuel _ a' w' (λj hj=>by
  by_cases Nk:i=j
  .subst Nk;rcases Nat.lt_or_ge i listed.size with h2 | h2;.simp[h2]
   .rw[Array.getD_eq_getD_getElem?,Array.getElem?_eq_none (by simpa using h2)];rfl
  .rw[getD_set_ne true Nk];exact hl j hj) h'⟩) (h.2 i hi)⟩
theorem wZ{n i:Nat}{oi:Oper}{v:Value}(hi:ops[i]?=some oi)(vk:∀(j:Nat) (o:Oper) cs b,ops[j]?=some o->o.op≠.select cs b)(hs:Region.sinkB md ops n=true)(hc:Region.chainB md ops n=true)(hn:n<ops.size)(ou:i<n)(hQ:∀c a w,Q (.panic c) (a.put oi.dst v) w->Q (.panic c) a w):
 ∀(fuel:Nat) (listed:Array Bool) (a:Act) (w:World),HeadInv md ops n listed ->
  (∀j oj,ops[j]?=some oj->j≠i->listed.getD j true=false->(∀e∈oj.after,Region.binds md e=true->e.on≠i)->oi.apart ops oj=true) ->
  i∈Region.ready md ops listed->YieldsIf P ops S oi v a->S w ->
  wD P md ops Q S n fuel (listed.setIfInBounds i true) (a.put oi.dst v) w->wD P md ops Q S n (fuel+1) listed a w:=by
 intro fuel;induction fuel with
 | zero =>
  intro listed a w inv _ hr hy hS H;refine⟨λh=>(by rw[h] at hr;cases hr),λj hj=>?_⟩;by_cases Zx:j=i;.subst Zx;exact hy.wpOp hi hS ⟨λ_=>hS,H⟩
  .have:=ready_mono hj Zx;rw[H.1] at this;cases this
 | succ fuel ih =>
  intro listed a w inv ZO hr hy hS H;have nH:=(mem_ready.1 hr).1;refine⟨λh=>(by rw[h] at hr;cases hr),λj hj=>?_⟩;have Hs:j<n:=by
   rcases Nat.lt_or_ge j n with h | h;.exact h
   .exact absurd hj (tail_waits hs hc hn inv _ i rfl ou nH j h)
  by_cases Zx:j=i;.subst Zx;exact hy.wpOp hi hS ⟨λ_=>hS,H⟩
  .have h1:=H.2 j (ready_mono hj Zx);obtain⟨hjun,oj,hoj,jB⟩:=mem_ready.1 hj;have vZ:∀e∈oj.after,Region.binds md e=true->e.on≠i:=λe he hb heq=>by
    have h1:=jB e he hb;rw[heq,getD_both nH] at h1;cases h1
   have h2:=wpOp_putIf hoj (ZO j oj hoj Zx hjun vZ) (λcs b=>vk i oi cs b hi) (λcs b=>vk j oj cs b hoj) hQ hy h1;have adn:∀k ok,ops[k]?=some ok->k≠i->(listed.setIfInBounds j true).getD k true=false ->
    (∀e∈ok.after,Region.binds md e=true->e.on≠i)->oi.apart ops ok=true:=λk ok hk hki nH ig=>by
    refine ZO k ok hk hki ?_ ig;by_cases KF:j=k;.subst KF;exact hjun
    .rw[getD_set_ne true KF] at nH;exact nH
   refine wpOp_mono (λa' w' h3=>⟨λ_=>h3.2.1 Hs,ih (listed.setIfInBounds j true) a' w' (inv.set hj Hs) adn (ready_mono hr (Ne.symm Zx)) h3.1 (h3.2.1 Hs) ?_⟩) h2;rw[Array.setIfInBounds_comm _ _ Zx];exact h3.2.2
def l8(P:Program)(ops:Array Oper)(Q:Exit->Act->World->Prop)(S:World->Prop)(K:Act->World->Prop):List (Nat×Bool)->Act->World->Prop
 | [],a,w=>K a w
 | (k,true)::l,a,w=>∃o v,ops[k]?=some o/\YieldsIf P ops S o v a/\S w/\l8 P ops Q S K l (a.put o.dst v) w
 | (k,false)::l,a,w=>wpOp P ops Q k (λa' w'=>S w'/\l8 P ops Q S K l a' w') a w
def Cb(md:Region.Mode)(ops:Array Oper)(n:Nat):List (Nat×Bool)->Array Bool->Bool
 | [],listed=>(List.range n).all (λj=>listed.getD j true)&&Region.seqB md ops (ops.size-n) n listed
 | (k,true)::l,listed=>decide (k<n)&&(Region.ready md ops listed).contains k&&Region.free md ops listed k&&Cb md ops n l (listed.setIfInBounds k true)
 | (k,false)::l,listed=>decide (k<n)&&decide (Region.ready md ops listed=[k])&&Cb md ops n l (listed.setIfInBounds k true)
theorem tV{n:Nat}{ol:List Oper}(tR:ops=ol.toArray)(vk:Region.noSelect ops=true)(hs:Region.sinkB md ops n=true)(hc:Region.chainB md ops n=true)(hn:n<ops.size)(hQ:∀c a w,Q (.panic c) a w->False):
 ∀(l:List (Nat×Bool)) (listed:Array Bool) (a:Act) (w:World),HeadInv md ops n listed->Cb md ops n l listed=true ->
  l8 P ops Q S (λa' w'=>wpList P ops Q (ol.drop n) a' w') l a w->wD P md ops Q S n (l.length+(ops.size-n)) listed a w
 | [],listed,a,w,inv,hB,h=>by
  simp only[Cb,Bool.and_eq_true] at hB;have hl:∀j,j<n->listed.getD j true=true:=λj hj=>List.all_eq_true.1 hB.1 j (List.mem_range.2 hj);rw[List.length_nil,Nat.zero_add];refine zf _ _ _ _ hl ?_;have oQ:(ol.drop n).length=ops.size-n:=by subst tR;simp
  rw[<-oQ];refine wpAny_of_seq (ol.drop n) n listed a w (λj=>by subst tR;simp) ?_ h;rw[oQ];exact hB.2
 | (k,true)::l,listed,a,w,inv,hB,h=>by
  simp only[Cb,Bool.and_eq_true,decide_eq_true_eq] at hB;obtain⟨⟨⟨Vd,hr⟩,hf⟩,A6⟩:=hB;obtain⟨o,v,ho,hy,hS,h'⟩:=h;have Vg:k∈Region.ready md ops listed:=by simpa using hr
  rw[show((k,true)::l).length+(ops.size-n)=(l.length+(ops.size-n))+1 by simp;omega];exact wZ ho (Region.noSelect_spec vk) hs hc hn Vd (λc a w h=>(hQ c _ w h).elim) _ listed a w inv (Region.free_spec ho hf) Vg hy hS
   (tV tR vk hs hc hn hQ l _ _ _ (inv.set Vg Vd) A6 h')
 | (k,false)::l,listed,a,w,inv,hB,h=>by
  simp only[Cb,Bool.and_eq_true,decide_eq_true_eq] at hB;obtain⟨⟨Vd,hr⟩,A6⟩:=hB;rw[show((k,false)::l).length+(ops.size-n)=(l.length+(ops.size-n))+1 by simp;omega];refine⟨λh0=>(by rw[h0] at hr;cases hr),λi hi=>?_⟩;have C5:=hi;rw[hr] at C5;obtain rfl:i=k:=by simpa using C5
  exact wpOp_mono (λa' w' h3=>⟨λ_=>h3.1,tV tR vk hs hc hn hQ l _ a' w' (inv.set hi Vd) A6 h3.2⟩) h
def ZQ(md:Region.Mode)(ops:Array Oper)(n:Nat)(Ov:List (Nat×Bool)):Bool :=
 Region.noSelect ops&&decide (n<ops.size)&&Region.sinkB md ops n&&Region.chainB md ops n&&decide (Ov.length=n)&&Cb md ops n Ov (Array.replicate ops.size false)
theorem ar{id:Nat}{a:Act}{w:World}{l:List Oper}(S:World->Prop)(n:Nat)(Ov:List (Nat×Bool))(hm:P.follows .mixedOrders=true)(hB:ZQ .any l.toArray n Ov=true)(h:l8 P l.toArray (NoPanic Q) S (λa' w'=>wpList P l.toArray (NoPanic Q) (l.drop n) a' w') Ov a w.drew):(Code.region id l.toArray true).wp P Q a w:=by
 simp only[ZQ,Bool.and_eq_true,decide_eq_true_eq] at hB;obtain⟨⟨⟨⟨⟨vk,hn⟩,hs⟩,hc⟩,hlen⟩,hp⟩:=hB;refine wp_region_noPanic ?_;refine wp_region_any hm ?_;have inv0:HeadInv .any l.toArray n (Array.replicate l.toArray.size false) :=
  ⟨by simp,λj oj _ hl=>(by rw[getD_replicate_false] at hl;cases hl),λt _ ht=>getD_in (by simpa using ht) (getD_replicate_false _ _)⟩;have:=tV (md:=.any) (Q:=NoPanic Q) (S:=S) rfl vk hs hc hn (λ_ _ _ h=>h) Ov _ a _ inv0 hp h;rw[hlen,show n+(l.toArray.size-n)=l.toArray.size by omega] at this;exact vO _ _ _ _ this
theorem Sc{K:Act->World->Prop}{k:Nat}{o:Oper}{v:Value}{l:List (Nat×Bool)}{a:Act}{w:World}(d:Option Tmp)(ho:ops[k]?=some o)(hd:o.dst=d)(hy:YieldsIf P ops S o v a)(hS:S w)(h:l8 P ops Q S K l (a.put d v) w):l8 P ops Q S K ((k,true)::l) a w:=by
 subst hd;exact⟨o,v,ho,hy,hS,h⟩
theorem fZ{K:Act->World->Prop}{k:Nat}{o:Oper}{l:List (Nat×Bool)}{a:Act}{w:World}(ho:ops[k]?=some o)(h:∀K':Act->World->Prop,(∀a w,S w->l8 P ops Q S K l a w->K' a w)->if Region.wanted o (yielded ops a.tmps)=true then Oper.wp P o a w K' Q else K' (a.put o.dst undef) w):
 l8 P ops Q S K ((k,false)::l) a w:=by
 show wpOp _ _ _ _ _ _ _;unfold wpOp;simp only[ho];have:=h (λa' w'=>S w'/\l8 P ops Q S K l a' w') (λa w h1 h2=>⟨h1,h2⟩);split;.rename_i hw;rw[if_pos hw] at this;exact .inl this
 .rename_i hw;rw[if_neg hw] at this;exact this
theorem dA{K:Act->World->Prop}{a:Act}{w:World}(h:K a w):l8 P ops Q S K [] a w:=h
end
section
variable {P:Program} {ops:Array Oper} {Q:Exit->Act->World->Prop} {S:World->Prop}
theorem ay{K:Act->World->Prop}{k:Nat}{o:Oper}{v:Value}{l:List (Nat×Bool)}{a a':Act}{w:World}(d:Tmp)(hS:S w)(h:l8 P ops Q S K l a' w)(ho:ops[k]?=some o:=by exact rfl)(hd:o.dst=some d:=by exact rfl)(hw:Region.wanted o (yielded ops a.tmps)=true:=by rfl)(hy:∀W,S W->(execOp a.eval o).run P W=.ok (.value v) W:=by intro W' hs;(try subst hs);go_simp;(try with_reducible rfl))(ha:a.put (some d) v=a':=by simp only[pq];exact rfl):
 l8 P ops Q S K ((k,true)::l) a w:=by
 subst ha;exact Sc (some d) ho hd (.inl ⟨hw,hy⟩) hS h
theorem Ku{K:Act->World->Prop}{k:Nat}{o:Oper}{l:List (Nat×Bool)}{a a':Act}{w:World}(d:Tmp)(hS:S w)(h:l8 P ops Q S K l a' w)(ho:ops[k]?=some o:=by exact rfl)(hd:o.dst=some d:=by exact rfl)(hw:Region.wanted o (yielded ops a.tmps)=false:=by rfl)(ha:a.put (some d) undef=a':=by simp only[pq];exact rfl):l8 P ops Q S K ((k,true)::l) a w:=by
 subst ha;exact Sc (some d) ho hd (.inr ⟨hw,rfl⟩) hS h
end
open Go.RowKit
theorem Em(K:Nat)(u:Value)(ys:List Int)(w:World)(dS:1<=K)(fs:K<=4)(hu:ae w u ys)(hy:bj K ys)(Gb:ys.length<=7):
 Calls Tryz.prog 141 #[.int .i64 K,u] w λe w'=>e=.returned (.int .i64 (aI K ys))/\w=w':=by
 have l1:=hu.len;replace⟨hu,hy⟩:=bD hu hy;go_enter Tryz.func141,Tryz.ntmps141;go_wp2;go_loop [5,6] (λn i=>∃j:Nat,j<=ys.length/\i=.int .i64 j/\n=.int .i64 (aI K (ys.take j))) (λ_ i=>ys.length-(intOf i).toNat);case atStart=>exact⟨0,by omega,rfl,rfl⟩
 case round =>
  obtain⟨j,hj,rfl,rfl⟩:=hrel;by_cases dw:j<ys.length
  .have i1:=hu.out.idx j dw;have c1:=hu.out.cell j dw;have hx:=hy.out ys[j] (by simp);have hn:Hid (aI K (ys.take (j+1))=aI K (ys.take j)*K+ys[j].toNat):=by
    show _=_;rw[gR ys j dw,cp]
   have vm:aI K (ys.take j)<=16384:=by
    have h1:=gH (ys.take j) (λx hx=>hy.out x (List.mem_of_mem_take hx));have h2:=nr dS fs (i:=(ys.take j).length) (by simp;omega);omega
   generalize ys[j]=x at c1 hx hn;generalize aI K (ys.take j)=N at hn vm;have hm1:0<=(N:Int)*(K:Int):=Int.mul_nonneg (by omega) (by omega);have qD:(N:Int)*(K:Int)<=65536:=by
    have:N*K<=65536:=Nat.mul_le_mul vm fs;have h2:=Int.ofNat_le.2 this;rw[Int.natCast_mul] at h2;exact h2
   go_wp2;go_round;case rel=>exact⟨j+1,by omega,by go_num,by rw[hn.out];go_num⟩
   case measure=>simp[intOf];omega
  .obtain rfl:j=ys.length:=by omega
   rw[List.take_length];go_wp2;go_ret;exact⟨rfl,rfl⟩
theorem Ei(at_ k R:Int)(va:Option Addr)(vn vc:Nat)(xs:List Int)(w:World)(h:ae w (.slice va vn vc) xs):
 Calls Tryz.prog 140 #[.int .i64 at_,.agg #[.int .i64 k,.int .i64 R,.slice va vn vc]] w (cz (λx w'=>gw w.heap.size w' (under Tm at_ (ep k R xs)) x) w):=by
 have b0:=Below.step (ab w (.cells #[.int .i64 k,.int .i64 R,.slice va vn vc] 24)) (ab _ (.cells #[.int .i64 0,.slice none 0 0,.slice none 0 0] 36));have q4:az ((w.alloc (.cells #[.int .i64 k,.int .i64 R,.slice va vn vc] 24)).alloc (.cells #[.int .i64 0,.slice none 0 0,.slice none 0 0] 36)) (w.heap.size+1) (.int .i64 0) (.slice none 0 0) (.slice none 0 0):=by simp[az,go_sem]
 replace h:=Hd (h.below b0);go_enter Tryz.func140,Tryz.ntmps140;go_wp2_with fail;refine(ux k R va vn vc xs _ h.out).mono ?_;rintro e w1 ⟨x,rfl,b1,he⟩;go_wp2_with fail;refine(uD _ at_ (ep k R xs) x _ he.at (λn l e=>by
  have:=wH e;simp only at this;exact⟨by omega,by omega,by omega⟩)).mono ?_;rintro e w2 ⟨x2,rfl,b2,GL⟩;obtain⟨q,a1,n1,c1,a2,n2,c2,rfl⟩:=GL.shape;have q4':=q4.below (Below.step b1 b2);obtain⟨⟨y0,y1,y2⟩,f0,f1,f2⟩:=q4';have hs:=b1.size;simp only[World.size_alloc] at hs;replace GL:=Hd GL;go_wp2;exact bodyPost_ret (v:=.agg #[.int .i64 q,.slice a1 n1 c1,.slice a2 n2 c2]) (by simp[results,Tryz.results140,go_sem,y0,y1,y2]) rfl ⟨_,rfl,aB (Below.step b0 (Below.step b1 b2)) (Nat.le_succ _) _ _ _,(GL.out.j9 (by omega) _ _ _).mono (by omega)⟩
theorem ae.piece{w:World}{a:Option Addr}{cap:Nat}{xs:List Int}(h:ae w (.slice a xs.length cap) xs)(k l:Nat)(hk:k<=l)(hl:l<=xs.length):
 ae w (sliced a k l cap 1) ((xs.take l).drop k):=by
 obtain⟨a',Rj,e,h1,h2,h3,h4⟩:=h;injection e with e1 _ e3;subst e1 e3;have hlen:((xs.take l).drop k).length=l-k:=by simp;omega
 refine⟨if cap=k then a else a.map (·.add (k*1)),cap-k,by rw[hlen];rfl,by rw[hlen];omega,by omega,?_,λi hi=>?_⟩
 .intro hn;by_cases hc:cap=k;.omega
  .rw[if_neg hc] at hn;have:=h3 (Option.map_eq_none_iff.1 hn);omega
 .rw[hlen] at hi;have hc:¬ cap=k:=by omega
  show w.cell? (af (.slice (if cap=k then a else a.map (·.add (k*1))) _ _) i)=_;rw[if_neg hc];cases a with
  | none=>have:=h3 rfl;omega
  | some p =>
   have h5:=h4 (k+i) (by omega);simp only[af] at h5;show w.cell? ((p.add (k*1)).add i)=_;rw[Nat.mul_one,show(p.add k).add i=p.add (k+i) by unfold Addr.add;by_cases O7:k=0<;>by_cases hi0:i=0<;>simp[O7,hi0,Nat.add_assoc],h5];simp
theorem ae.post{w:World}{v:Value}{xs:List Int}(h:ae w v xs)(k:Nat)(hk:k<=xs.length):
 ∃u,(∀w',(Instr.slice 22 v (some (.int .i64 k)) none none).run Tryz.prog w'=.ok u w')/\ae w u (xs.drop k):=by
 have h':=h;obtain⟨a,cap,rfl,_⟩:=h';refine⟨sliced a k xs.length cap 1,λw'=>?_,?_⟩;.rw[run_slice_l w' 22 a xs.length cap we .i64 k (by omega) (by omega),Bt,LF];rfl
 .have:=h.piece k xs.length hk (Nat.le_refl _);rwa [List.take_length] at this
theorem ae.mid{w:World}{v:Value}{xs:List Int}(h:ae w v xs)(k l:Nat)(hk:k<=l)(hl:l<=xs.length):
 ∃u,(∀w',(Instr.slice 22 v (some (.int .i64 k)) (some (.int .i64 l)) none).run Tryz.prog w'=.ok u w')/\ae w u ((xs.take l).drop k):=by
 have h':=h;obtain⟨a,cap,rfl,h1,_⟩:=h';refine⟨sliced a k l cap 1,λw'=>?_,h.piece k l hk hl⟩;rw[run_slice_lh w' 22 a xs.length cap we .i64 .i64 k l (by omega) (by omega) (by omega),Bt,LF];rfl
theorem ae.front{w:World}{v:Value}{xs:List Int}(h:ae w v xs)(l:Nat)(hl:l<=xs.length):
 ∃u,(∀w',(Instr.slice 22 v none (some (.int .i64 l)) none).run Tryz.prog w'=.ok u w')/\ae w u (xs.take l):=by
 have h':=h;obtain⟨a,cap,rfl,h1,_⟩:=h';refine⟨sliced a 0 l cap 1,λw'=>?_,?_⟩;.rw[run_slice_h w' 22 a xs.length cap we .i64 l (by omega) (by omega),Bt,LF];rfl
 .have:=h.piece 0 l (Nat.zero_le _) hl;simpa using this
def Sz:ByteArray:=⟨#[111,118,101,114,108,97,112]⟩
def cd(k R:Int)(T:List Int):ky :=
 match ep k R T with
 | some t=>some t
 | none=>if 256<T.length then fresh kh 0 4 else none
theorem qR{K R:Nat}{T:List Int}(h:aG K R T):cd K R T=if 256<T.length then fresh kh 0 4 else none:=by
 unfold cd;rw[h.check]
theorem zX{k R:Int}{T:List Int}(h:cd k R T=none):ep k R T=none/\T.length<=256:=by
 unfold cd at h;cases hc:ep k R T with
 | some t=>rw[hc] at h;cases h
 | none =>
  rw[hc] at h;refine⟨rfl,?_⟩;by_cases hl:256<T.length;.rw[if_pos hl] at h;simp[fresh] at h
  .omega
theorem mF(r:Nat->Addr)(k R:Int)(va:Option Addr)(vn vc:Nat)(T:List Int)(w:World)(hg:ck r w)(h:ae w (.slice va vn vc) T):
 Calls Tryz.prog 13 #[.agg #[.int .i64 k,.int .i64 R,.slice va vn vc]] w (cz (λx w'=>bf r w' (cd k R T) x) w):=by
 have b0:=ab w (.cells #[.int .i64 k,.int .i64 R,.slice va vn vc] 24);have q:az (w.alloc (.cells #[.int .i64 k,.int .i64 R,.slice va vn vc] 24)) w.heap.size (.int .i64 k) (.int .i64 R) (.slice va vn vc):=by simp[az,go_sem]
 have lT:=h.len;replace hg:=Hd (hg.below b0);replace h:=Hd (h.below b0);obtain⟨e0,gq,Zr⟩:∃e0,(cd k R T=match e0 with | some t=>some t | none=>if 256<T.length then fresh kh 0 4 else none)/\ep k R T=e0:=⟨_,rfl,rfl⟩;replace Zr:=Hd Zr;go_enter Tryz.func13,Tryz.ntmps13;go_wp2_with fail;refine(ET r k R _ T _ hg.out h.out).mono ?_;rintro e w1 ⟨x,rfl,b1,he⟩;rw[Zr.out] at he;cases e0 with
 | some t =>
  simp only[] at gq;replace gq:=Hd gq;obtain⟨T1,a1,rfl⟩:=bf.bX he;replace he:=Hd he;go_wp2;go_ret;exact⟨_,rfl,Below.step b0 b1,by rw[gq.out];exact he.out⟩
 | none =>
  obtain rfl:=he.dG;simp only[] at gq;clear he;obtain⟨⟨z0,z1,z2⟩,-,-,-⟩:=q.below b1;by_cases hl:256<T.length;.rw[if_pos hl] at gq;replace gq:=Hd gq;go_wp2_with fail;refine(je r _ _ _ (hg.out.below b1) (by decide) (by decide)).mono ?_;rintro e w2 ⟨x,rfl,b2,he⟩;go_wp2;go_ret;exact⟨_,rfl,Below.step b0 (Below.step b1 b2),by rw[gq.out];exact he⟩
  .rw[if_neg hl] at gq;replace gq:=Hd gq;go_wp2;go_ret;exact⟨_,rfl,Below.step b0 b1,by rw[gq.out];rfl⟩
theorem BZ(r:Nat->Addr)(k R:Int)(va:Option Addr)(vn vc:Nat)(T:List Int)(w:World)(hg:ck r w)(h:ae w (.slice va vn vc) T):
 Calls Tryz.prog 118 #[.agg #[.int .i64 k,.int .i64 R,.slice va vn vc]] w (cz (λx w'=>bf r w' (under Sz 0 (cd k R T)) x) w):=by
 have b0:=ab w (.cells #[.int .i64 k,.int .i64 R,.slice va vn vc] 24);replace hg:=Hd (hg.below b0);replace h:=Hd (h.below b0);go_enter Tryz.func118,Tryz.ntmps118;go_wp2_with fail;refine(mF r k R va vn vc T _ hg.out h.out).mono ?_;rintro e w1 ⟨x,rfl,b1,he⟩;go_wp2_with fail;refine(om r _ 0 _ x _ he).mono ?_;rintro e w2 ⟨y,rfl,b2,hy⟩;go_wp2;go_ret;exact⟨_,rfl,Below.step b0 (Below.step b1 b2),hy⟩
theorem vM(K R:Nat)(va:Option Addr)(vn vc:Nat)(T:List Int)(w:World)(h:ae w (.slice va vn vc) T)(h1:1<=K)(hT:T.length<=16384):
 Calls Tryz.prog 119 #[.agg #[.int .i64 K,.int .i64 R,.slice va vn vc]] w λe w'=>e=.returned (.int .i64 ((T.length/K:Nat):Int))/\w'=w.alloc (.cells #[.int .i64 K,.int .i64 R,.slice va vn vc] 24):=by
 have hK0:((K:Int)==0)=false:=by rw[beq_eq_false_iff_ne];omega
 have Yy:¬ (K:Int)=0:=by omega
 have hK2:(0:Int)<K:=by omega
 have hK3:¬ K=0:=by omega
 have lT:=h.len;have hq0:0<=(T.length:Int)/(K:Int):=Int.ediv_nonneg (by omega) (by omega);have hqc:(T.length:Int)/(K:Int)=((T.length/K:Nat):Int):=by simp
 have hqw:IntKind.i64.wrap ((T.length:Int)/(K:Int))=(T.length:Int)/(K:Int):=by
  have:T.length/K<=16384:=Nat.le_trans (Nat.div_le_self _ _) hT;exact db (by omega) (by rw[hqc];omega)
 rw[<-hqc];replace hqc:=Hd hqc;go_enter Tryz.func119,Tryz.ntmps119;go_wp2;go_ret;exact⟨rfl,rfl⟩
theorem IA{w:World}(B:Nat)(ty:TypeId)(v u:Value)(xs ys:List Int)(aO:aj B w v xs)(hu:ae w u ys)(hlen:xs.length+ys.length<=17592186044416)(hB:B<=w.heap.size):
 ∃v' w',(Builtin.append_ #[22,22] ty #[v,u]).run Tryz.prog w=.ok v' w'/\aj B w' v' (xs++ys)/\Below B w w'/\w.grownBy w' v.ownBlock/\(v'.ownBlock=v.ownBlock\/v'.ownBlock=some w.heap.size):=by
 obtain⟨i,hi,qq,kS,oU⟩:=info_parts Fu;obtain⟨ao,cap,rfl,h1,h2,h3,h4⟩:=hu;cases ao with
 | none =>
  obtain rfl:=h3 rfl;have hy:ys=[]:=List.length_eq_zero_iff.1 (by omega);subst hy;have qL:=run_append_owned_none (P:=Tryz.prog) w B 22 ty 3 i 1 ki hi v xs.length _ aO;exact⟨_,_,qL,by simpa using aO,Below.refl _ _,World.grownBy.refl _ _,.inl rfl⟩
 | some p =>
  obtain⟨v',w',hr,nD,qJ,_,AV⟩:=run_append_own_at (P:=Tryz.prog) w B 22 ty 3 i (.int .i64 0) 1 8 ki hi qq kS oU rfl (by decide) v xs.length _ aO p ys.length cap (ys.map (.int .i64)) (by simp) (λj u hj=>by
   have dw:j<ys.length:=by have:=(List.getElem?_eq_some_iff.1 hj).1;simpa using this
   have:=h4 j dw;simp only[af] at this;rw[this,<-hj];simp[dw]) (ints_oneCell _ _) (by unfold maxLen;omega) (by omega) hB;exact⟨v',w',hr,by simpa [aj] using nD,(Below.refl _ _).grown qJ hB (λk hk=>(aO.lt k hk).1),qJ,AV⟩
theorem uR{ops:Array Oper}{o:Oper}{a:Act}{w:World}{K:Act->World->Prop}{Q:Exit->Act->World->Prop}{Ep:Prop}(jZ:o.guard=none)(s x:Operand)(ho:o.op=.call { callee:=.builtin .append,args:=#[s,x],argTypes:=#[22,22] })(B:Nat)(v u:Value)(xs ys:List Int)(hs:a.eval s=v)(hx:a.eval x=u)(aO:aj B w v xs)(hu:ae w u ys)(hlen:xs.length+ys.length<=17592186044416)(hB:B<=w.heap.size)(h:∀v' w',aj B w' v' (xs++ys)->Below B w w'->K (a.put o.dst v') w'):
 if Region.wanted o (yielded ops a.tmps)=true then Oper.wp Tryz.prog o a w K Q else Ep:=by
 have hw:Region.wanted o (yielded ops a.tmps)=true:=by simp[Region.wanted,jZ]
 rw[if_pos hw];obtain⟨v',w',hr,h2,h3,_,_⟩:=IA B o.type v u xs ys aO hu hlen hB;unfold Oper.wp;simp[execOp,ho,resolve,invoke,builtin,hs,hx,hr,Result.andThen];exact h v' w' h2 h3
theorem jm(w1:World)(x0 x1 x2:Value):
 Below w1.heap.size w1 (w1.alloc (.cells #[x0,x1,x2] 36))/\az (w1.alloc (.cells #[x0,x1,x2] 36)) w1.heap.size x0 x1 x2:=by
 obtain⟨y0,y1,y2,f⟩:=oD (Below.refl (w1.alloc (.cells #[x0,x1,x2] 36)).heap.size (w1.alloc (.cells #[x0,x1,x2] 36)));exact⟨ab w1 _,⟨y0,y1,y2⟩,f⟩
theorem mM{k R:Int}{T:List Int}{n:Int}{l:List (ByteArray×Int)}(h:cd k R T=some (n,l)):1<=n/\n<=11/\l.length=1:=by
 unfold cd at h;cases hc:ep k R T with
 | some t =>
  rw[hc] at h;injection h with h;subst h;have:=wH hc;simp only at this;omega
 | none =>
  rw[hc] at h;dsimp only at h;split at h;.injection h with h;injection h with h1 h2;subst h1;subst h2;simp
  .cases h
theorem ON(k R:Int)(va:Option Addr)(vn vc:Nat)(T:List Int)(w:World)(h:ae w (.slice va vn vc) T):
 Calls Tryz.prog 52 #[.agg #[.int .i64 k,.int .i64 R,.slice va vn vc]] w (cz (λx w'=>gw w.heap.size w' (cd k R T) x) w):=by
 have b0:=Below.step (ab w (.cells #[.int .i64 k,.int .i64 R,.slice va vn vc] 24)) (ab _ (.cells #[.int .i64 0,.slice none 0 0,.slice none 0 0] 36));have q:az ((w.alloc (.cells #[.int .i64 k,.int .i64 R,.slice va vn vc] 24)).alloc (.cells #[.int .i64 0,.slice none 0 0,.slice none 0 0] 36)) w.heap.size (.int .i64 k) (.int .i64 R) (.slice va vn vc):=by simp[az,go_sem]
 have q4:az ((w.alloc (.cells #[.int .i64 k,.int .i64 R,.slice va vn vc] 24)).alloc (.cells #[.int .i64 0,.slice none 0 0,.slice none 0 0] 36)) (w.heap.size+1) (.int .i64 0) (.slice none 0 0) (.slice none 0 0):=by simp[az,go_sem]
 have lT:=h.len;have s0:((w.alloc (.cells #[.int .i64 k,.int .i64 R,.slice va vn vc] 24)).alloc (.cells #[.int .i64 0,.slice none 0 0,.slice none 0 0] 36)).heap.size=w.heap.size+2:=by simp
 replace h:=Hd (h.below b0);obtain⟨e0,gq,Zr⟩:∃e0,(cd k R T=match e0 with | some t=>some t | none=>if 256<T.length then fresh kh 0 4 else none)/\ep k R T=e0:=⟨_,rfl,rfl⟩;replace⟨Zr,s0⟩:=bD Zr s0;go_enter Tryz.func52,Tryz.ntmps52;go_wp2_with fail;refine(ux k R va vn vc T _ h.out).mono ?_;rintro e w1 ⟨x,rfl,b1,he⟩;rw[Zr.out] at he;obtain⟨qn,a1,n1,c1,a2,n2,c2,rfl⟩:=he.shape;obtain⟨be,bx⟩:=jm w1 (.int .i64 qn) (.slice a1 n1 c1) (.slice a2 n2 c2);have rV:=Below.step b1 be;have q':=q.below rV;have q4':=q4.below rV;have C6:=he.below be;have s1:=b1.size;rw[s0.out] at s1;obtain⟨W2,dZ⟩:=Ex (w1.alloc (.cells #[.int .i64 qn,.slice a1 n1 c1,.slice a2 n2 c2] 36));have s2:w1.heap.size<W2.heap.size:=by rw[<-dZ];simp
 have Da:=Below.step b0 rV;rw[dZ] at be bx rV q' q4' C6 Da;replace dZ:=Hd dZ;obtain⟨⟨y0,y1,y2⟩,-,-,-⟩:=bx;have hq:(qn != 0)=e0.isSome:=by
  cases e0 with
  | none =>
   have:Value.agg #[.int .i64 qn,.slice a1 n1 c1,.slice a2 n2 c2]=.agg #[.int .i64 0,.slice none 0 0,.slice none 0 0]:=he;injection this with this;injection this with this;injection this with h1 h2;injection h1 with _ h1;rw[h1];rfl
  | some t =>
   obtain⟨n,l⟩:=t;obtain⟨_,_,_,_,_,_,e,_⟩:=he;injection e with e;injection e with e;injection e with h1 h2;injection h1 with _ h1;have:=wH Zr.out;simp only at this;rw[h1,this.1];rfl
 replace⟨he,C6⟩:=bD he C6;go_upto_region 2 with fail;rw[dZ.out];go_wp2_with fail;refine(fH _ _ _ _ _ _ _ W2).mono ?_;rintro e w3 ⟨_,rfl,b3,rfl⟩;rw[hq];replace hq:=Hd hq;have E0:=C6.out.below b3;have bxx:az W2 w1.heap.size (.int .i64 qn) (.slice a1 n1 c1) (.slice a2 n2 c2)->True:=λ_=>trivial;clear bxx;have Zi:=(b3.cell (World.block_lt_of_cell? _ _ y0)).trans y0;have y1':=(b3.cell (World.block_lt_of_cell? _ _ y1)).trans y1;have y2':=(b3.cell (World.block_lt_of_cell? _ _ y2)).trans y2;obtain⟨⟨z0,z1,z2⟩,-,-,-⟩:=q'.below b3;obtain⟨⟨u0,u1,u2⟩,f0,f1,f2⟩:=q4'.below b3;have BK:=Below.step Da b3;clear y0 y1 y2;cases e0 with
 | some t =>
  simp only[] at gq;replace⟨gq,E0⟩:=bD gq E0;go_wp2;refine bodyPost_ret (v:=.agg #[.int .i64 qn,.slice a1 n1 c1,.slice a2 n2 c2]) (by simp[results,Tryz.results52,go_sem,u0,u1,u2]) rfl ⟨_,rfl,aB BK (by omega) _ _ _,?_⟩;rw[gq.out];refine((E0.out.j9 ?_ _ _ _)).mono ?_;.have:=s0.out;omega
  .have:=s0.out;omega
 | none =>
  simp only[] at gq;by_cases hl:256<T.length;.rw[if_pos hl] at gq;have d1:decide ((256:Int)<(T.length:Int))=true:=decide_eq_true (by omega);replace⟨gq,E0⟩:=bD gq E0;go_wp2_with fail;refine(jC _ _ _ _).mono ?_;rintro e w4 ⟨x4,rfl,b4,he4⟩;obtain⟨q9,a9,n9,c9,a8,n8,c8,rfl⟩:=he4.shape;have bb:=Below.step BK b4;obtain⟨⟨u0',u1',u2'⟩,g0,g1,g2⟩:=q4.below (Below.step rV (Below.step b3 b4));have s4:=(Below.step b3 b4).size;replace he4:=Hd he4;clear u0 u1 u2 f0 f1 f2 z0 z1 z2 Zi y1' y2';go_wp2;refine bodyPost_ret (v:=.agg #[.int .i64 q9,.slice a9 n9 c9,.slice a8 n8 c8]) (by simp[results,Tryz.results52,go_sem,u0',u1',u2']) rfl ⟨_,rfl,aB bb (by omega) _ _ _,?_⟩;rw[gq.out];have s3:=b3.size;exact(he4.out.j9 (by omega) _ _ _).mono (by omega)
  .rw[if_neg hl] at gq;have d1:decide ((256:Int)<(T.length:Int))=false:=decide_eq_false (by omega);replace⟨gq,E0⟩:=bD gq E0;go_wp2;refine bodyPost_ret (v:=.agg #[.int .i64 qn,.slice a1 n1 c1,.slice a2 n2 c2]) (by simp[results,Tryz.results52,go_sem,u0,u1,u2]) rfl ⟨_,rfl,aB BK (by omega) _ _ _,?_⟩;rw[gq.out];refine((E0.out.j9 ?_ _ _ _)).mono ?_;.have:=s0.out;omega
   .have:=s0.out;omega
theorem lF(op:ByteArray)(k R:Int)(va:Option Addr)(vn vc:Nat)(T:List Int)(w:World)(h:ae w (.slice va vn vc) T):
 Calls Tryz.prog 23 #[.string op,.agg #[.int .i64 k,.int .i64 R,.slice va vn vc]] w (cz (λx w'=>gw w.heap.size w' (under op 0 (cd k R T)) x) w):=by
 have b0:=Below.step (ab w (.cells #[.int .i64 k,.int .i64 R,.slice va vn vc] 24)) (ab _ (.cells #[.int .i64 0,.slice none 0 0,.slice none 0 0] 36));have q4:az ((w.alloc (.cells #[.int .i64 k,.int .i64 R,.slice va vn vc] 24)).alloc (.cells #[.int .i64 0,.slice none 0 0,.slice none 0 0] 36)) (w.heap.size+1) (.int .i64 0) (.slice none 0 0) (.slice none 0 0):=by simp[az,go_sem]
 replace h:=Hd (h.below b0);go_enter Tryz.func23,Tryz.ntmps23;go_wp2_with fail;refine(ON k R va vn vc T _ h.out).mono ?_;rintro e w1 ⟨x,rfl,b1,he⟩;go_wp2_with fail;refine(uD _ 0 (cd k R T) x _ he.at (λn l e=>by
  have:=mM e;exact⟨by omega,by omega,by omega⟩)).mono ?_;rintro e w2 ⟨x2,rfl,b2,GL⟩;obtain⟨q,a1,n1,c1,a2,n2,c2,rfl⟩:=GL.shape;have q4':=q4.below (Below.step b1 b2);obtain⟨⟨y0,y1,y2⟩,f0,f1,f2⟩:=q4';have hs:=b1.size;simp only[World.size_alloc] at hs;replace GL:=Hd GL;go_wp2;exact bodyPost_ret (v:=.agg #[.int .i64 q,.slice a1 n1 c1,.slice a2 n2 c2]) (by simp[results,Tryz.results23,go_sem,y0,y1,y2]) rfl ⟨_,rfl,aB (Below.step b0 (Below.step b1 b2)) (Nat.le_succ _) _ _ _,(GL.out.j9 (by omega) _ _ _).mono (by omega)⟩
theorem Gi(K R d:Nat)(va:Option Addr)(vn vc:Nat)(T:List Int)(p q:Nat)(v:Value)(ys:List Int)(w:World)(h:ae w (.slice va vn vc) T)(hr:aG K R T)(hv:ae w v ys)(hy:bj K ys)(Gb:ys.length=2*(R+d)+1)(hRd:R+d<=3)(x0:w.cell? ⟨p,0,none⟩=some (.int .i64 K))(x1:w.cell? ⟨p,1,none⟩=some (.int .i64 R))(x2:w.cell? ⟨p,2,none⟩=some (.slice va vn vc))(x3:w.cell? ⟨q,0,none⟩=some (.int .i64 d)):
 Calls Tryz.prog 169 #[v,.pointer (some ⟨p,0,none⟩),.pointer (some ⟨q,0,none⟩)] w (cz (λx _=>x=.int .i64 (T.getD (aI K ((ys.drop d).take (2*R+1))) 0)) w):=by
 have lv:=hv.len;obtain⟨u,hu,hiu⟩:=hv.mid d (ys.length-d) (by omega) (by omega);have eL:(ys.take (ys.length-d)).drop d=(ys.drop d).take (2*R+1):=by
  rw[List.drop_take];congr 1;omega
 rw[eL] at hiu;have hD:(ys.length:Int)-(d:Int)=((ys.length-d:Nat):Int):=by omega
 have hle:ys.length<=7:=by omega
 have YX:bj K ((ys.drop d).take (2*R+1)):=dN (eE hy _) _;have sD:((ys.drop d).take (2*R+1)).length=2*R+1:=by simp;omega
 generalize hY:T.getD (aI K ((ys.drop d).take (2*R+1))) 0=Y;generalize (ys.drop d).take (2*R+1)=zs at *;obtain⟨e,CY⟩:=Ex (ys.length-d);rw[CY] at hD hu;have he7:e<=7:=by omega
 have X6:IntKind.i64.wrap (e:Int)=e:=db (by omega) (by omega);obtain⟨L,hL⟩:=Ex ys.length;rw[hL] at lv hD hle;have hd3:d<=3:=by omega
 replace⟨hY,h,hv,hy,YX,sD,Gb,hr⟩:=gp hY h hv hy YX sD Gb hr;replace⟨hiu,hL⟩:=bD hiu hL;clear CY eL;go_enter Tryz.func169,Tryz.ntmps169;go_upto_region 1 with fail;refine ar (λw'=>w'.cell? ⟨p,0,none⟩=some (.int .i64 K)/\w'.cell? ⟨p,1,none⟩=some (.int .i64 R)/\w'.cell? ⟨p,2,none⟩=some (.slice va vn vc)/\w'.cell? ⟨q,0,none⟩=some (.int .i64 d)) 9 [(0,true),(1,true),(2,true),(3,true),(4,true),(5,true),(6,true),(7,true),(8,false)] (by kernel_rfl) (by kernel_rfl) ?_;have hS:w.drew.cell? ⟨p,0,none⟩=some (.int .i64 K)/\w.drew.cell? ⟨p,1,none⟩=some (.int .i64 R)/\w.drew.cell? ⟨p,2,none⟩=some (.slice va vn vc)/\w.drew.cell? ⟨q,0,none⟩=some (.int .i64 d):=⟨x0,x1,x2,x3⟩;refine ay 5 hS ?_;refine ay 6 hS ?_;refine ay 7 hS ?_;refine ay 8 hS ?_;refine ay 9 hS ?_;refine ay 10 hS ?_;refine ay 11 hS ?_;refine ay 12 hS ?_;refine fZ rfl (λKK hK=>?_);go_simp;refine(K5 K R va vn vc T u zs _ h.out.drew hr.out hiu.out.drew YX.out sD.out).mono ?_;rintro e w1 ⟨x,rfl,b1,rfl⟩;rw[hY.out];have hS1:w1.cell? ⟨p,0,none⟩=some (.int .i64 K)/\w1.cell? ⟨p,1,none⟩=some (.int .i64 R)/\w1.cell? ⟨p,2,none⟩=some (.slice va vn vc)/\w1.cell? ⟨q,0,none⟩=some (.int .i64 d):=⟨au b1 hS.1,au b1 hS.2.1,au b1 hS.2.2.1,au b1 hS.2.2.2⟩;refine hK _ _ hS1 ?_;clear hK KK;refine dA ?_;simp only[List.drop_succ_cons,List.drop_zero];clear hS hS1;go_wp2;refine NoPanic.normal ?_;go_wp2;go_ret;exact⟨_,rfl,Below.step ((Below.refl _ _).drew) b1,rfl⟩
theorem Ir(args:Array Value)(w:World):(callFunc 169 args).run Tryz.prog w=.ok (.enter 169 args) w:=by kernel_rfl
theorem KQ(K R d:Nat)(T:List Int):rf K (2*(R+d)+1) (λys=>T.getD (aI K ((ys.drop d).take (2*R+1))) 0) (pw K (2*(R+d)+1))=jb K R d T:=rfl
theorem Kj(K R d:Nat)(va:Option Addr)(vn vc:Nat)(T:List Int)(w:World)(h:ae w (.slice va vn vc) T)(hr:aG K R T)(hRd:R+d<=3)(Ri:Int)(Yq:Ri=((R+d:Nat):Int)):
 Calls Tryz.prog 146 #[.agg #[.int .i64 K,.int .i64 R,.slice va vn vc],.int .i64 Ri] w (cz (λx w'=>∃a n c,x=.agg #[.int .i64 K,.int .i64 ((R+d:Nat):Int),.slice a n c]/\aj w.heap.size w' (.slice a n c) (jb K R d T)) w):=by
 have b0:=Below.step (ab w (.cells #[.int .i64 K,.int .i64 R,.slice va vn vc] 24)) (ab _ (.cells #[.int .i64 0,.int .i64 0,.slice none 0 0] 24));have b3:=Below.step b0 (ab _ (.cells #[.int .i64 d] 3));have q1:az (((w.alloc (.cells #[.int .i64 K,.int .i64 R,.slice va vn vc] 24)).alloc (.cells #[.int .i64 0,.int .i64 0,.slice none 0 0] 24)).alloc (.cells #[.int .i64 d] 3)) w.heap.size (.int .i64 K) (.int .i64 R) (.slice va vn vc):=by simp[az,go_sem]
 have q2:az (((w.alloc (.cells #[.int .i64 K,.int .i64 R,.slice va vn vc] 24)).alloc (.cells #[.int .i64 0,.int .i64 0,.slice none 0 0] 24)).alloc (.cells #[.int .i64 d] 3)) (w.heap.size+1) (.int .i64 0) (.int .i64 0) (.slice none 0 0):=by simp[az,go_sem]
 have q3:(((w.alloc (.cells #[.int .i64 K,.int .i64 R,.slice va vn vc] 24)).alloc (.cells #[.int .i64 0,.int .i64 0,.slice none 0 0] 24)).alloc (.cells #[.int .i64 d] 3)).cell? ⟨w.heap.size+2,0,none⟩=some (.int .i64 d):=by simp[go_sem]
 have dS:=hr.k1;have fs:=hr.k4;have kK:=hr.r3;have nJ:Ri-(R:Int)=(d:Int):=by omega
 have hRi3:0<=Ri/\Ri<=3:=by omega
 have h3:=h.below b3;obtain⟨W3,mr⟩:=Ey (((w.alloc (.cells #[.int .i64 K,.int .i64 R,.slice va vn vc] 24)).alloc (.cells #[.int .i64 0,.int .i64 0,.slice none 0 0] 24)).alloc (.cells #[.int .i64 d] 3));have s3:W3.heap.size=w.heap.size+3:=by rw[mr];simp
 rw[<-mr] at b3 q1 q2 q3 h3;replace⟨Yq,hr,mr,s3,q2,h3⟩:=rr Yq hr mr s3 q2 h3;go_enter Tryz.func146,Tryz.ntmps146;go_wp2_with fail;rw[<-mr.out];refine(US K (R+d) _ (.pointer (some ⟨w.heap.size,0,none⟩)) (.pointer (some ⟨w.heap.size+2,0,none⟩)) (λys=>T.getD (aI K ((ys.drop d).take (2*R+1))) 0) W3 dS fs hRd Ri Yq.out Ir (λv ys w' hB hv hy Gb=>by
  have Wf:=q1.below hB;exact Gi K R d va vn vc T _ _ v ys w' (h3.out.below hB) hr.out hv hy Gb hRd Wf.1.1 Wf.1.2.1 Wf.1.2.2 (au hB q3))).mono ?_;rintro e w4 ⟨x,rfl,b4,a,n,c,rfl,ho⟩;rw[KQ] at ho;obtain⟨⟨y0,y1,y2⟩,f0,f1,f2⟩:=q2.out.below b4;replace ho:=Hd ho;clear q1 q3;go_wp2;refine bodyPost_ret (v:=.agg #[.int .i64 K,.int .i64 ((R+d:Nat):Int),.slice a n c]) (by simp[results,Tryz.results146,go_sem,y0,y1,y2]) rfl ⟨_,rfl,aB (Below.step b3 b4) (Nat.le_succ _) _ _ _,a,n,c,rfl,?_⟩;have:=s3.out;exact(((ho.out.al (a:=⟨w.heap.size+1,0,none⟩) (by simp;omega) _).al (a:=⟨w.heap.size+1,1,none⟩) (by simp;omega) _).al (a:=⟨w.heap.size+1,2,none⟩) (by simp;omega) _).mono (by omega)
theorem mg{K R:Nat}{T:List Int}(h:aG K R T)(hl:T.length<=256):cd K R T=none:=by rw[qR h,if_neg (by omega)]
theorem rS(r:Nat->Addr)(K R:Nat)(va:Option Addr)(vn vc:Nat)(T:List Int)(w:World)(hg:ck r w)(h:ae w (.slice va vn vc) T)(bK:aG K R T)(hl:T.length<=256):
 Calls Tryz.prog 72 #[.agg #[.int .i64 K,.int .i64 R,.slice va vn vc]] w (jf (λx y _=>x=.int .i64 ((T.length/K:Nat):Int)/\y=.nilIface) w):=by
 have b0:=ab w (.cells #[.int .i64 K,.int .i64 R,.slice va vn vc] 24);have q:az (w.alloc (.cells #[.int .i64 K,.int .i64 R,.slice va vn vc] 24)) w.heap.size (.int .i64 K) (.int .i64 R) (.slice va vn vc):=by simp[az,go_sem]
 have hs:=mg bK hl;have dS:=bK.k1;generalize hN:T.length/K=N;replace⟨hN,hs⟩:=bD hN hs;replace hg:=Hd (hg.below b0);replace h:=Hd (h.below b0);go_enter Tryz.func72,Tryz.ntmps72;go_wp2_with fail;refine(BZ r K R va vn vc T _ hg.out h.out).mono ?_;rintro e w1 ⟨x,rfl,b1,he⟩;rw[hs.out] at he;obtain rfl:=bf.dG he;obtain⟨⟨z0,z1,z2⟩,-,-,-⟩:=q.below b1;go_wp2_with fail;refine(vM K R va vn vc T _ (h.out.below b1) dS (by omega)).mono ?_;rintro e w2 ⟨rfl,rfl⟩;rw[hN.out];go_wp2;go_ret2;exact⟨_,_,rfl,Below.step b0 (Below.step b1 (ab _ _)),rfl,rfl⟩
theorem zh(r:Nat->Addr)(K R:Nat)(va:Option Addr)(vn vc:Nat)(T:List Int)(u s:Nat)(w:World)(hg:ck r w)(h:ae w (.slice va vn vc) T)(bK:aG K R T)(hl:T.length<=256)(hu:u<T.length/K)(hs:s<K):
 Calls Tryz.prog 99 #[.agg #[.int .i64 K,.int .i64 R,.slice va vn vc],.int .i64 u,.int .i64 s] w (vf (λx y z _=>x=.int .i64 (rW K (T.length/K) u s)/\y=.int .i64 (lf K T u s)/\z=.nilIface) w):=by
 have b0:=ab w (.cells #[.int .i64 K,.int .i64 R,.slice va vn vc] 24);have q:az (w.alloc (.cells #[.int .i64 K,.int .i64 R,.slice va vn vc] 24)) w.heap.size (.int .i64 K) (.int .i64 R) (.slice va vn vc):=by simp[az,go_sem]
 have gq:=mg bK hl;have dS:=bK.k1;have fs:=bK.k4;have yA:u*K+s<T.length:=by
  have:=Nat.div_mul_le_self T.length K;have:=vW (q:=u) (m:=T.length/K) hs hu;omega
 have ZL:T.length/K<=256:=Nat.le_trans (Nat.div_le_self _ _) hl;have huK:u*K<=256:=by omega
 obtain⟨p,hp⟩:=Ex (u*K);have hM:(u:Int)*(K:Int)=(p:Int):=by rw[<-hp];simp
 obtain⟨at_,AV⟩:=Ex (u*K+s);have hA:(p:Int)+(s:Int)=(at_:Int):=by rw[<-AV,hp];simp
 have i1:=λw'=>h.idx at_ (by omega) w';have c1:=h.aH at_ (by omega);generalize af (.slice va vn vc) at_=ta at *;have kZ:=h.below b0;have e1:lf K T u s=T.getD at_ 0:=by unfold lf;rw[AV]
 have e2:rW K (T.length/K) u s=at_%(T.length/K):=by unfold rW;rw[AV]
 rw[e1,e2];generalize T.getD at_ 0=y at *;obtain⟨N,hN⟩:=Ex (T.length/K);rw[hN] at hu ZL ⊢;have pC:¬ (N:Int)=0:=by omega
 have CV:((N:Int)==0)=false:=by rw[beq_eq_false_iff_ne];omega
 have YO:(0:Int)<N:=by omega
 have hN4:¬ N=0:=by omega
 have hrem:(at_:Int).tmod (N:Int)=((at_%N:Nat):Int):=by rw[Int.tmod_eq_emod_of_nonneg (by omega)];simp
 have hat1:at_<=256:=by omega
 rw[AV] at yA;rw[hp] at huK AV;have sI:(p:Int)+(s:Int)<=256:=by omega
 clear AV hp;have c1':=(b0.cell (World.block_lt_of_cell? _ _ c1)).trans c1;replace⟨hN,gq⟩:=bD hN gq;replace hg:=Hd (hg.below b0);replace h:=Hd kZ;clear c1 e1 e2 kZ;go_enter Tryz.func99,Tryz.ntmps99;go_wp2_with fail;refine(BZ r K R va vn vc T _ hg.out h.out).mono ?_;rintro e w1 ⟨x,rfl,b1,he⟩;rw[gq.out] at he;obtain rfl:=bf.dG he;have q1:=q.below b1;obtain⟨⟨z0,z1,z2⟩,-,-,-⟩:=q1;have q1:=Hd (q.below b1);go_wp2_with fail;refine(vM K R va vn vc T _ (h.out.below b1) dS (by omega)).mono ?_;rintro e w2 ⟨rfl,rfl⟩;rw[hN.out];have b2:=Below.step b1 (ab w1 (.cells #[.int .i64 K,.int .i64 R,.slice va vn vc] 24));obtain⟨W2,dZ⟩:=Ey (w1.alloc (.cells #[.int .i64 K,.int .i64 R,.slice va vn vc] 24));rw[<-dZ] at b2 ⊢;have q2:=q.below b2;have Ej:=h.out.below b2;have cT2:=(b2.cell (World.block_lt_of_cell? _ _ c1')).trans c1';clear dZ z0 z1 z2 c1';obtain⟨⟨z0,z1,z2⟩,-,-,-⟩:=q2;replace Ej:=Hd Ej;go_upto_region 9 with fail;refine ar (λw'=>w'.cell? ⟨w.heap.size,0,none⟩=some (.int .i64 K)/\w'.cell? ⟨w.heap.size,1,none⟩=some (.int .i64 R)/\w'.cell? ⟨w.heap.size,2,none⟩=some (.slice va vn vc)/\w'.cell? ta=some (.int .i64 y)) 11 [(0,true),(1,true),(4,true),(5,true),(6,true),(7,true),(8,true),(2,false),(3,true),(9,true),(10,true)] (by kernel_rfl) (by kernel_rfl) ?_;have hS:W2.drew.cell? ⟨w.heap.size,0,none⟩=some (.int .i64 K)/\W2.drew.cell? ⟨w.heap.size,1,none⟩=some (.int .i64 R)/\W2.drew.cell? ⟨w.heap.size,2,none⟩=some (.slice va vn vc)/\W2.drew.cell? ta=some (.int .i64 y):=⟨z0,z1,z2,cT2⟩;refine ay 42 hS ?_;refine ay 43 hS ?_;refine ay 46 hS ?_;refine ay 47 hS ?_;refine ay 48 hS ?_;refine ay 49 hS ?_;refine ay 50 hS ?_;refine fZ rfl (λKK hK=>?_);go_simp;refine(vM K R va vn vc T _ Ej.out.drew dS (by omega)).mono ?_;rintro e W3 ⟨rfl,rfl⟩;rw[hN.out];have b3:=ab W2.drew (.cells #[.int .i64 K,.int .i64 R,.slice va vn vc] 24);have hS3:=(⟨au b3 hS.1,au b3 hS.2.1,au b3 hS.2.2.1,(b3.cell (World.block_lt_of_cell? _ _ hS.2.2.2)).trans hS.2.2.2⟩:(W2.drew.alloc (.cells #[.int .i64 K,.int .i64 R,.slice va vn vc] 24)).cell? ⟨w.heap.size,0,none⟩=some (.int .i64 K)/\(W2.drew.alloc (.cells #[.int .i64 K,.int .i64 R,.slice va vn vc] 24)).cell? ⟨w.heap.size,1,none⟩=some (.int .i64 R)/\(W2.drew.alloc (.cells #[.int .i64 K,.int .i64 R,.slice va vn vc] 24)).cell? ⟨w.heap.size,2,none⟩=some (.slice va vn vc)/\(W2.drew.alloc (.cells #[.int .i64 K,.int .i64 R,.slice va vn vc] 24)).cell? ta=some (.int .i64 y));refine hK _ _ hS3 ?_;clear hK KK;refine ay 45 hS3 ?_;refine ay 6 hS3 ?_;refine ay 7 hS3 ?_;refine dA ?_;simp only[List.drop_succ_cons,List.drop_zero];clear hS hS3;go_wp2;refine NoPanic.normal ?_;go_wp2;go_ret3;exact⟨_,_,_,rfl,Below.step b0 (Below.step b2 ((Below.refl _ _).drew.alloc (Nat.le_refl _) _)),rfl,rfl,rfl⟩
theorem Qo(r:Nat->Addr)(K R d:Nat)(va:Option Addr)(vn vc:Nat)(T:List Int)(w:World)(hg:ck r w)(h:ae w (.slice va vn vc) T)(hr:aG K R T)(hRd:R+d<=3)(Ri:Int)(Yq:Ri=((R+d:Nat):Int)):
 Calls Tryz.prog 125 #[.agg #[.int .i64 K,.int .i64 R,.slice va vn vc],.int .i64 Ri] w (jf (λx y w'=>y=.nilIface/\∃a n c,x=.agg #[.int .i64 K,.int .i64 ((R+d:Nat):Int),.slice a n c]/\aj w.heap.size w' (.slice a n c) (jb K R d T)) w):=by
 have b0:=Below.step (ab w (.cells #[.int .i64 K,.int .i64 R,.slice va vn vc] 24)) (ab _ (.cells #[.int .i64 0,.int .i64 0,.slice none 0 0] 24));have q2:az ((w.alloc (.cells #[.int .i64 K,.int .i64 R,.slice va vn vc] 24)).alloc (.cells #[.int .i64 0,.int .i64 0,.slice none 0 0] 24)) (w.heap.size+1) (.int .i64 0) (.int .i64 0) (.slice none 0 0):=by simp[az,go_sem]
 have q1:az ((w.alloc (.cells #[.int .i64 K,.int .i64 R,.slice va vn vc] 24)).alloc (.cells #[.int .i64 0,.int .i64 0,.slice none 0 0] 24)) w.heap.size (.int .i64 K) (.int .i64 R) (.slice va vn vc):=by simp[az,go_sem]
 have dS:=hr.k1;have fs:=hr.k4;have kK:=hr.r3;have fK:=Hd hr.check;have h1:R<=Ri:=by omega
 have h2:Ri<=3:=by omega
 have h1d:decide (Ri<(R:Int))=false:=by simp;omega
 have h2d:decide ((3:Int)<Ri)=false:=by simp;omega
 replace Yq:=Hd Yq;replace hg:=Hd (hg.below b0);replace h:=Hd (h.below b0);replace⟨hr,q1,q2⟩:=dO hr q1 q2;go_enter Tryz.func125,Tryz.ntmps125;go_wp2_with fail;refine(J2 r _ K R va vn vc T _ hg.out h.out).mono ?_;rintro e w1 ⟨x,rfl,hb,he⟩;rw[fK.out] at he;obtain rfl:=bf.dG he;have Wf:=q1.out.below hb;obtain⟨⟨z0,z1,z2⟩,-,-,-⟩:=Wf;have s1:=hb.size;simp only[World.size_alloc] at s1;replace s1:=Hd s1;go_wp2_with fail;refine(Kj K R d va vn vc T w1 (h.out.below hb) hr.out hRd Ri Yq.out).mono ?_;rintro e w2 ⟨x,rfl,b2,a,n,c,rfl,ho⟩;obtain⟨⟨y0,y1,y2⟩,f0,f1,f2⟩:=q2.out.below (Below.step hb b2);replace ho:=Hd ho;clear z0 z1 z2;go_wp2;refine bodyPost_ret (v:=.tuple #[.agg #[.int .i64 K,.int .i64 ((R+d:Nat):Int),.slice a n c],.nilIface]) (by simp[results,Tryz.results125,go_sem,y0,y1,y2]) rfl ⟨_,_,rfl,aB (Below.step b0 (Below.step hb b2)) (Nat.le_succ _) _ _ _,rfl,a,n,c,rfl,?_⟩;have:=s1.out;exact(((ho.out.al (a:=⟨w.heap.size+1,0,none⟩) (by simp;omega) _).al (a:=⟨w.heap.size+1,1,none⟩) (by simp;omega) _).al (a:=⟨w.heap.size+1,2,none⟩) (by simp;omega) _).mono (by omega)
def fW(R:Nat):Nat:=if R=0 then 1 else R
def lJ(K R:Nat)(T:List Int):List Int:=if R=0 then jb K 0 1 T else T
theorem zw{K R:Nat}{T:List Int}(h:aG K R T):aG K (fW R) (lJ K R T):=by
 unfold fW lJ;by_cases e:R=0;.subst e;rw[if_pos rfl,if_pos rfl];exact Sf (d:=1) h (by decide)
 .rw[if_neg e,if_neg e];exact h
theorem tW(R:Nat):1<=fW R:=by unfold fW;split<;>omega
theorem qZ{K R:Nat}{T:List Int}(h:aG K R T)(hl:T.length<=256):(lJ K R T).length<=256:=by
 unfold lJ;by_cases e:R=0
 .subst e;rw[if_pos rfl,nV];have h4:=h.k4;have:pw K 3<=pw 4 3:=Nat.pow_le_pow_left h4 3;have e4:pw 4 3=64:=by decide
  have:pw K (2*(0+1)+1)=pw K 3:=rfl;omega
 .rw[if_neg e];exact hl
theorem nB{K R:Nat}{T:List Int}(h:aG K R T)(hR:1<=R)(hl:T.length<=256):pw K (2*R)<=81:=by
 have h1:=h.k1;have h4:=h.k4;have h3:=h.r3;rw[h.len] at hl;have hK:K=1\/K=2\/K=3\/K=4:=by omega
 have np:R=1\/R=2\/R=3:=by omega
 rcases hK with rfl | rfl | rfl | rfl<;>rcases np with rfl | rfl | rfl<;>revert hl<;>decide
theorem Ic(r:Nat->Addr)(k R:Int)(va:Option Addr)(vn vc:Nat)(T:List Int)(t:Int×List (ByteArray×Int))(w:World)(hg:ck r w)(h:ae w (.slice va vn vc) T)(hc:cd k R T=some t):
 Calls Tryz.prog 78 #[.agg #[.int .i64 k,.int .i64 R,.slice va vn vc]] w (jf (λx y w'=>x=zR/\bf r w' (under l6 0 (some t)) y) w):=by
 have b0:=Below.step (ab w (.cells #[.int .i64 k,.int .i64 R,.slice va vn vc] 24)) (ab _ (.cells #[.int .i64 0,.int .i64 0,.slice none 0 0] 24));have q2:az ((w.alloc (.cells #[.int .i64 k,.int .i64 R,.slice va vn vc] 24)).alloc (.cells #[.int .i64 0,.int .i64 0,.slice none 0 0] 24)) (w.heap.size+1) (.int .i64 0) (.int .i64 0) (.slice none 0 0):=by simp[az,go_sem]
 replace hg:=Hd (hg.below b0);replace h:=Hd (h.below b0);replace⟨hc,q2⟩:=bD hc q2;go_enter Tryz.func78,Tryz.ntmps78;go_wp2_with fail;refine(mF r k R va vn vc T _ hg.out h.out).mono ?_;rintro e w1 ⟨x,rfl,b1,he⟩;rw[hc.out] at he;have Ed:=he;obtain⟨T1,a1,rfl⟩:=bf.bX he;replace⟨he,Ed⟩:=bD he Ed;go_wp2_with fail;refine(om r _ 0 _ _ w1 Ed.out).mono ?_;rintro e w2 ⟨y,rfl,b2,hy⟩;obtain⟨T2,a2,rfl⟩:∃T a,y=.iface T (.pointer (some a)):=by
  unfold under at hy;exact bf.bX hy
 obtain⟨⟨y0,y1,y2⟩,f0,f1,f2⟩:=q2.out.below (Below.step b1 b2);replace hy:=Hd hy;go_wp2;rw[fh y0 y1 y2];exact bodyPost_ret (v:=.tuple #[zR,.iface T2 (.pointer (some a2))]) (by simp[results,Tryz.results78,go_sem,y0,y1,y2]) rfl ⟨_,_,rfl,Below.step b0 (Below.step b1 b2),rfl,hy.out⟩
theorem wP(r:Nat->Addr)(K R:Nat)(va:Option Addr)(vn vc:Nat)(T:List Int)(w:World)(hg:ck r w)(h:ae w (.slice va vn vc) T)(hr:aG K R T)(hl:T.length<=256):
 Calls Tryz.prog 78 #[.agg #[.int .i64 K,.int .i64 R,.slice va vn vc]] w (jf (λx y w'=>y=.nilIface/\∃a n c,x=.agg #[.int .i64 K,.int .i64 (fW R),.slice a n c]/\ae w' (.slice a n c) (lJ K R T)) w):=by
 have b0:=Below.step (ab w (.cells #[.int .i64 K,.int .i64 R,.slice va vn vc] 24)) (ab _ (.cells #[.int .i64 0,.int .i64 0,.slice none 0 0] 24));have q2:az ((w.alloc (.cells #[.int .i64 K,.int .i64 R,.slice va vn vc] 24)).alloc (.cells #[.int .i64 0,.int .i64 0,.slice none 0 0] 24)) (w.heap.size+1) (.int .i64 0) (.int .i64 0) (.slice none 0 0):=by simp[az,go_sem]
 have q1:az ((w.alloc (.cells #[.int .i64 K,.int .i64 R,.slice va vn vc] 24)).alloc (.cells #[.int .i64 0,.int .i64 0,.slice none 0 0] 24)) w.heap.size (.int .i64 K) (.int .i64 R) (.slice va vn vc):=by simp[az,go_sem]
 have hs:=Hd (mg hr hl);have h0:=Hd h;have Ju:w.heap.size+1<((w.alloc (.cells #[.int .i64 K,.int .i64 R,.slice va vn vc] 24)).alloc (.cells #[.int .i64 0,.int .i64 0,.slice none 0 0] 24)).heap.size:=by simp
 replace hg:=Hd (hg.below b0);replace h:=Hd (h.below b0);replace⟨hr,q1,q2,Ju⟩:=gF hr q1 q2 Ju;by_cases hR:R=0
 .have e1:fW R=R+1:=by unfold fW;rw[if_pos hR,hR]
  have e2:lJ K R T=jb K R 1 T:=by unfold lJ;rw[if_pos hR,hR]
  have hRq:((R:Int)==0)=true:=by simp[hR]
  rw[e1,e2];replace hR:=Hd hR;clear e1 e2;go_enter Tryz.func78,Tryz.ntmps78;go_wp2_with fail;refine(mF r K R va vn vc T _ hg.out h.out).mono ?_;rintro e w1 ⟨x,rfl,b1,he⟩;rw[hs.out] at he;obtain rfl:=bf.dG he;have Wf:=q1.out.below b1;obtain⟨⟨z0,z1,z2⟩,-,-,-⟩:=Wf;go_wp2_with fail;refine(Qo r K R 1 va vn vc T w1 (hg.out.below b1) (h.out.below b1) hr.out (by have:=hR.out;omega) 1 (by have:=hR.out;simp[this])).mono ?_;rintro e w2 ⟨x,y,rfl,b2,rfl,a,n,c,rfl,ho⟩;obtain⟨⟨y0,y1,y2⟩,f0,f1,f2⟩:=q2.out.below (Below.step b1 b2);replace ho:=Hd ho;clear z0 z1 z2;go_wp2;refine bodyPost_ret (v:=.tuple #[.agg #[.int .i64 K,.int .i64 ((R+1:Nat):Int),.slice a n c],.nilIface]) (by simp[results,Tryz.results78,go_sem,y0,y1,y2]) rfl ⟨_,_,rfl,aB (Below.step b0 (Below.step b1 b2)) (Nat.le_succ _) _ _ _,rfl,a,n,c,rfl,?_⟩;have s1:=Ju.out;have s2:=b1.size;exact(((ho.out.al (a:=⟨w.heap.size+1,0,none⟩) (Nat.lt_of_lt_of_le s1 s2) _).al (a:=⟨w.heap.size+1,1,none⟩) (Nat.lt_of_lt_of_le s1 s2) _).al (a:=⟨w.heap.size+1,2,none⟩) (Nat.lt_of_lt_of_le s1 s2) _).at
 .have e1:fW R=R:=by unfold fW;rw[if_neg hR]
  have e2:lJ K R T=T:=by unfold lJ;rw[if_neg hR]
  have hRq:((R:Int)==0)=false:=by rw[beq_eq_false_iff_ne];omega
  have np:¬ (R:Int)=0:=by omega
  rw[e1,e2];clear e1 e2;go_enter Tryz.func78,Tryz.ntmps78;go_wp2_with fail;refine(mF r K R va vn vc T _ hg.out h.out).mono ?_;rintro e w1 ⟨x,rfl,b1,he⟩;rw[hs.out] at he;obtain rfl:=bf.dG he;have Wf:=q1.out.below b1;obtain⟨⟨z0,z1,z2⟩,-,-,-⟩:=Wf;obtain⟨⟨y0,y1,y2⟩,f0,f1,f2⟩:=q2.out.below b1;have si:=Below.step b0 b1;have hTW:=h0.out.below (aB si (Nat.le_succ _) (.int .i64 K) (.int .i64 R) (.slice va vn vc));replace hTW:=Hd hTW;go_wp2;refine bodyPost_ret (v:=.tuple #[.agg #[.int .i64 K,.int .i64 R,.slice va vn vc],.nilIface]) (by simp[results,Tryz.results78,go_sem,y0,y1,y2]) rfl ⟨_,_,rfl,aB si (Nat.le_succ _) _ _ _,rfl,va,vn,vc,rfl,hTW.out⟩
theorem Ra{K R d:Nat}{T:List Int}{i:Nat}(h:i<pw K (2*(R+d)+1)):(jb K R d T).getD i 0=T.getD (aI K (((aV K (2*(R+d)+1) i).drop d).take (2*R+1))) 0:=by
 simp[jb,List.getD,h]
theorem Xz(k m:Int)(K n:Nat)(w:World)(hk:k=K)(hm:m=n)(h1:1<=K)(h4:K<=4)(hn:n<=7):
 Calls Tryz.prog 181 #[.int .i64 k,.int .i64 m] w λe w'=>e=.returned (.int .i64 (pw K n))/\w=w':=by
 have hp:=lq k m K n w hk hm h1 h4 hn;clear hk hm;replace hp:=Hd hp;go_enter Tryz.func181,Tryz.ntmps181;go_wp2_with fail;refine hp.out.mono ?_;rintro e w1 ⟨rfl,rfl⟩;go_wp2;go_ret;exact⟨rfl,rfl⟩
theorem UX(K R d:Nat)(va:Option Addr)(vn vc:Nat)(T:List Int)(w:World)(h:ae w (.slice va vn vc) T)(hr:aG K R T)(hd:R+d<=3)(RR:Int)(Kt:RR=((R+d:Nat):Int)):
 Calls Tryz.prog 167 #[.agg #[.int .i64 K,.int .i64 R,.slice va vn vc],.int .i64 RR] w (cz (λx w'=>∃a n c,x=.agg #[.int .i64 K,.int .i64 RR,.slice a n c]/\aj w.heap.size w' (.slice a n c) (jb K R d T)) w):=by
 have dS:=hr.k1;have fs:=hr.k4;have kK:=hr.r3;obtain⟨M,hM⟩:=Ex (pw K (2*(R+d)+1));have hM2:M<=16384:=by rw[<-hM];exact nr dS fs (by omega)
 have b0:Below w.heap.size w (((w.alloc (.cells #[.int .i64 K,.int .i64 R,.slice va vn vc] 24)).alloc (.cells #[.int .i64 0,.int .i64 0,.slice none 0 0] 24)).alloc (.cells #[.int .i64 K,.int .i64 RR,.slice none 0 0] 24)):=Below.step (ab w (.cells #[.int .i64 K,.int .i64 R,.slice va vn vc] 24)) (Below.step (ab _ (.cells #[.int .i64 0,.int .i64 0,.slice none 0 0] 24)) (ab _ (.cells #[.int .i64 K,.int .i64 RR,.slice none 0 0] 24)));have qr:az (((w.alloc (.cells #[.int .i64 K,.int .i64 R,.slice va vn vc] 24)).alloc (.cells #[.int .i64 0,.int .i64 0,.slice none 0 0] 24)).alloc (.cells #[.int .i64 K,.int .i64 RR,.slice none 0 0] 24)) w.heap.size (.int .i64 K) (.int .i64 R) (.slice va vn vc):=by simp[az,go_sem]
 have qz:az (((w.alloc (.cells #[.int .i64 K,.int .i64 R,.slice va vn vc] 24)).alloc (.cells #[.int .i64 0,.int .i64 0,.slice none 0 0] 24)).alloc (.cells #[.int .i64 K,.int .i64 RR,.slice none 0 0] 24)) (w.heap.size+1) (.int .i64 0) (.int .i64 0) (.slice none 0 0):=by simp[az,go_sem]
 have qo:az (((w.alloc (.cells #[.int .i64 K,.int .i64 R,.slice va vn vc] 24)).alloc (.cells #[.int .i64 0,.int .i64 0,.slice none 0 0] 24)).alloc (.cells #[.int .i64 K,.int .i64 RR,.slice none 0 0] 24)) (w.heap.size+2) (.int .i64 K) (.int .i64 RR) (.slice none 0 0):=by simp[az,go_sem]
 have s0:(((w.alloc (.cells #[.int .i64 K,.int .i64 R,.slice va vn vc] 24)).alloc (.cells #[.int .i64 0,.int .i64 0,.slice none 0 0] 24)).alloc (.cells #[.int .i64 K,.int .i64 RR,.slice none 0 0] 24)).heap.size=w.heap.size+3:=by simp
 have jA:∀j,j<T.length->(af (.slice va vn vc) j).block<w.heap.size:=λj hj=>World.block_lt_of_cell? _ _ (h.aH j hj);obtain⟨W0,mz⟩:=Ex ((((w.alloc (.cells #[.int .i64 K,.int .i64 R,.slice va vn vc] 24)).alloc (.cells #[.int .i64 0,.int .i64 0,.slice none 0 0] 24)).alloc (.cells #[.int .i64 K,.int .i64 RR,.slice none 0 0] 24)));have h0:=h.below b0;rw[mz] at b0 qr qz qo s0 h0;replace⟨h,hr,hM,s0,jA,mz⟩:=rr h hr hM s0 jA mz;have hRR2:=Hd Kt;have CO:2*RR+1=((2*(R+d)+1:Nat):Int):=by omega
 have hdd:RR-(R:Int)=(d:Int):=by omega
 replace CO:=Hd CO;have e1:0<=RR:=by omega
 have e2:RR<=3:=by omega
 clear Kt;go_enter Tryz.func167,Tryz.ntmps167;go_upto_region 2 with fail;rw[mz.out];have qr0:=qr;obtain⟨⟨z0,z1,z2⟩,-,-,-⟩:=qr0;go_wp2_with fail;clear mz z0 z1 z2;go_loopw [7] (λiv wr=>∃i:Nat,i<=M/\iv=.int .i64 i/\(∃oa on oc,aj (w.heap.size+3) wr (.slice oa on oc) ((jb K R d T).take i)/\az wr (w.heap.size+2) (.int .i64 K) (.int .i64 RR) (.slice oa on oc))/\az wr (w.heap.size+1) (.int .i64 0) (.int .i64 0) (.slice none 0 0)/\az wr w.heap.size (.int .i64 K) (.int .i64 R) (.slice va vn vc)/\Below w.heap.size w wr/\w.heap.size+3<=wr.heap.size) (λiv _=>M-(intOf iv).toNat);case atStart=>exact⟨0,by omega,rfl,⟨none,0,0,aj.nil _ _,qo⟩,qz,qr,b0,by rw[s0.out];omega⟩
 case round =>
  clear qo qz qr b0 h0;obtain⟨i,hi,rfl,⟨oa,on,oc,hO,qo⟩,qz,qr,hB,DI⟩:=hrel;obtain⟨wo,rfl⟩:=Ey wr;have qr0:=qr;obtain⟨⟨z0,z1,z2⟩,-,-,-⟩:=qr0;have Ks:=Xz K (2*RR+1) K (2*(R+d)+1) wo rfl CO.out dS fs (by omega);rw[hM.out] at Ks;have YM:=fun (j:Int) (hj:j=(i:Int)) (hi:i<M)=>wO K (2*RR+1) j K (2*(R+d)+1) i wo rfl CO.out hj dS fs (by omega) (by omega);replace⟨Ks,YM,qo,qz,qr,hO⟩:=rr Ks YM qo qz qr hO;go_wp2_with fail;refine Ks.out.mono ?_;rintro e w1 ⟨rfl,rfl⟩;by_cases aT:i<M
  .have dlt:decide ((i:Int)<(M:Int))=true:=decide_eq_true (by omega);go_wp2_with fail;refine(YM.out _ rfl aT).mono ?_;rintro e w1 ⟨x,rfl,b1,hx⟩;obtain⟨W,hW⟩:=Ex w1.drew;have bW:Below wo.heap.size wo W:=by rw[<-hW];exact b1.drew
   have V8:Below w.heap.size w W:=hB.trans (bW.mono hB.size);have qoW:=qo.out.below bW;have qzW:=qz.out.below bW;have qrW:=qr.out.below bW;have Eh:=hO.out.below bW;have sW:w.heap.size+3<=W.heap.size:=Nat.le_trans DI bW.size;have oQ:(aV K (2*(R+d)+1) i).length=2*(R+d)+1:=aK _ _ _;have hxW:ae W x (aV K (2*(R+d)+1) i):=by rw[<-hW];exact hx.at
   have lX:=hxW.len;rw[oQ] at lX;obtain⟨pv,sD,hP⟩:=hxW.mid d (2*(R+d)+1-d) (by omega) (by omega);have Dm:((aV K (2*(R+d)+1) i).take (2*(R+d)+1-d)).drop d=((aV K (2*(R+d)+1) i).drop d).take (2*R+1):=by rw[List.drop_take];congr 1;omega
   rw[Dm] at hP;have Ny:(((aV K (2*(R+d)+1) i).drop d).take (2*R+1)).length=2*R+1:=by rw[List.length_take,List.length_drop];omega
   have Ty:bj K (((aV K (2*(R+d)+1) i).drop d).take (2*R+1)):=dN (eE (fM dS _ _) d) _;have xK:=gH _ Ty;rw[Ny,<-hr.out.len] at xK;have hT:=h.out.below V8;have iT:=λw'=>hT.idx _ xK w';have cT:=hT.aH _ xK;have htb:=jA.out _ xK;have hg:=Ra (K:=K) (R:=R) (d:=d) (T:=T) (i:=i) (by rw[hM.out];exact aT);have Ka:(jb K R d T).length=M:=by rw[nV];exact hM.out
   have kg:(jb K R d T).take (i+1)=(jb K R d T).take i++[(jb K R d T).getD i 0]:=by
    rw[List.take_add_one,List.getElem?_eq_getElem (by rw[Ka];exact aT),List.getD_eq_getElem?_getD,List.getElem?_eq_getElem (by rw[Ka];exact aT)];rfl
   rw[hg] at kg;have Qm:=Em K pv _ W dS fs hP Ty (by rw[Ny];omega);obtain⟨pa,pn,pc,rfl⟩:=hP.shape;obtain⟨xa,xn,xc,rfl⟩:=hxW.shape;have hsl2:∀w',(Instr.slice 22 (.slice xa xn xc) (some (.int .i64 (d:Int))) (some (.int .i64 (((2*(R+d)+1:Nat):Int)-(d:Int)))) none).run Tryz.prog w'=.ok (.slice pa pn pc) w':=by
    intro w';have:=sD w';rwa [show(((2*(R+d)+1-d:Nat):Nat):Int)=((2*(R+d)+1:Nat):Int)-(d:Int) by omega] at this
   have hws9:IntKind.i64.wrap (((2*(R+d)+1:Nat):Int)-(d:Int))=((2*(R+d)+1:Nat):Int)-(d:Int):=db (by omega) (by omega);have tR:((jb K R d T).take i).length=i:=by rw[List.length_take,Ka];omega
   generalize hn9:((2*(R+d)+1:Nat):Int)=n9 at *;generalize T.getD (aI K (((aV K (2*(R+d)+1) i).drop d).take (2*R+1))) 0=y at *;generalize aI K (((aV K (2*(R+d)+1) i).drop d).take (2*R+1))=N at *;generalize af (.slice va vn vc) N=ta at *;have Be:=World.block_lt_of_cell? _ _ cT;have hS:W.cell? ⟨w.heap.size,0,none⟩=some (.int .i64 K)/\W.cell? ⟨w.heap.size,1,none⟩=some (.int .i64 R)/\W.cell? ⟨w.heap.size,2,none⟩=some (.slice va vn vc)/\W.cell? ⟨w.heap.size+2,2,none⟩=some (.slice oa on oc)/\W.cell? ta=some (.int .i64 y):=⟨qrW.1.1,qrW.1.2.1,qrW.1.2.2,qoW.1.2.2,cT⟩;have bl:=ab W (.cells #[.int .i64 y] 3);have gG:=aj.lit W.heap.size W (Nat.le_refl _) [y] (by simp[maxLen]) #[.int .i64 y] rfl 1 rfl;have CT:=Eh.below bl;have KS:w.heap.size+3<=(W.alloc (.cells #[.int .i64 y] 3)).heap.size:=by simp;omega
   have qol:=qoW.below bl;have qzl:=qzW.below bl;have qrl:=qrW.below bl;have hS1:(W.alloc (.cells #[.int .i64 y] 3)).cell? ⟨w.heap.size,0,none⟩=some (.int .i64 K)/\(W.alloc (.cells #[.int .i64 y] 3)).cell? ⟨w.heap.size,1,none⟩=some (.int .i64 R)/\(W.alloc (.cells #[.int .i64 y] 3)).cell? ⟨w.heap.size,2,none⟩=some (.slice va vn vc)/\(W.alloc (.cells #[.int .i64 y] 3)).cell? ⟨w.heap.size+2,2,none⟩=some (.slice oa on oc)/\(W.alloc (.cells #[.int .i64 y] 3)).cell? ta=some (.int .i64 y):=⟨qrl.1.1,qrl.1.2.1,qrl.1.2.2,qol.1.2.2,(bl.cell Be).trans cT⟩;replace⟨Qm,hT,Eh,hP,hxW,hx,Ty,Ny⟩:=gp Qm hT Eh hP hxW hx Ty Ny;replace⟨Dm,hg,kg,tR,oQ,Ka,hW,CT⟩:=gp Dm hg kg tR oQ Ka hW CT;replace⟨gG,qol,qzl,qrl,qoW,qzW,qrW,hn9⟩:=gp gG qol qzl qrl qoW qzW qrW hn9;clear sD cT z0 z1 z2 Ks YM;go_upto_region 7 with fail;refine ar (λw'=>w'.cell? ⟨w.heap.size,0,none⟩=some (.int .i64 K)/\w'.cell? ⟨w.heap.size,1,none⟩=some (.int .i64 R)/\w'.cell? ⟨w.heap.size,2,none⟩=some (.slice va vn vc)/\w'.cell? ⟨w.heap.size+2,2,none⟩=some (.slice oa on oc)/\w'.cell? ta=some (.int .i64 y)) 19 [(0,true),(1,true),(2,true),(3,true),(4,true),(5,true),(6,true),(7,true),(8,true),(9,true),(10,true),(11,true),(12,true),(13,false),(14,true),(15,true),(16,false),(17,false),(18,true)] (by kernel_rfl) (by kernel_rfl) ?_;rw[hW.out];refine ay 34 hS ?_;refine ay 35 hS ?_;refine ay 36 hS ?_;refine ay 37 hS ?_;refine ay 38 hS ?_;refine ay 39 hS ?_;refine ay 40 hS ?_;refine ay 41 hS ?_;refine ay 42 hS ?_;refine ay 43 hS ?_;refine ay 44 hS ?_;refine ay 45 hS ?_;refine ay 46 hS ?_;refine fZ rfl (λKK hK=>?_);go_simp;refine Qm.out.mono ?_;rintro e w5 ⟨rfl,rfl⟩;refine hK _ _ hS ?_;clear hK KK;refine ay 48 hS ?_;refine ay 49 hS ?_;refine fZ rfl (λKK hK=>?_);go_simp;refine hK _ _ hS1 ?_;clear hK KK;refine fZ rfl (λKK hK=>?_);refine uR rfl _ _ rfl (w.heap.size+3) (.slice oa on oc) (.slice (some ⟨W.heap.size,0,none⟩) 1 1) _ [y] rfl rfl CT.out gG.out.at (by rw[tR.out];simp;omega) KS ?_;intro v9 w9 vQ b9;rw[<-kg.out] at vQ;obtain⟨Z7,ZC,Zg,rfl⟩:=vQ.at.shape;have s9:=b9.size;have qo9:=qol.out.kY b9 (by omega);have qz9:=qzl.out.kY b9 (by omega);have qr9:=qrl.out.kY b9 (by omega);have b99:Below w.heap.size w w9:=(V8.trans (bl.mono (by omega))).trans (b9.mono (by omega));replace vQ:=Hd vQ;have hS9:w9.cell? ⟨w.heap.size,0,none⟩=some (.int .i64 K)/\w9.cell? ⟨w.heap.size,1,none⟩=some (.int .i64 R)/\w9.cell? ⟨w.heap.size,2,none⟩=some (.slice va vn vc)/\w9.cell? ⟨w.heap.size+2,2,none⟩=some (.slice oa on oc)/\w9.cell? ta=some (.int .i64 y):=⟨qr9.1.1,qr9.1.2.1,qr9.1.2.2,qo9.1.2.2,(b9.cell (by omega)).trans hS1.2.2.2.2⟩;refine hK _ _ hS9 ?_;clear hK KK;refine Sc (v:=?_) (some 52) rfl rfl (Or.inl ⟨by rfl,?_⟩) hS9 ?_;rotate_left;.rintro W' ⟨s0,s1,s2,s3,s4⟩;go_simp;try with_reducible rfl
   simp only[Act.put,List.setIfInBounds_toArray];refine dA ?_;simp only[List.drop_succ_cons,List.drop_zero];obtain⟨⟨o0,o1,o2⟩,g0,g1,g2⟩:=qo9;have qo10:az (w9.setCell ⟨w.heap.size+2,2,none⟩ (.slice Z7 ZC Zg)) (w.heap.size+2) (.int .i64 K) (.int .i64 RR) (.slice Z7 ZC Zg):=az.YT ⟨⟨o0,o1,o2⟩,g0,g1,g2⟩ _;have qz10:az (w9.setCell ⟨w.heap.size+2,2,none⟩ (.slice Z7 ZC Zg)) (w.heap.size+1) (.int .i64 0) (.int .i64 0) (.slice none 0 0):=qz9.vy (by omega) _ _;have qr10:az (w9.setCell ⟨w.heap.size+2,2,none⟩ (.slice Z7 ZC Zg)) w.heap.size (.int .i64 K) (.int .i64 R) (.slice va vn vc):=qr9.vy (by omega) _ _;have sz:=vQ.out.al (a:=⟨w.heap.size+2,2,none⟩) (by simp) (.slice Z7 ZC Zg);have HF:Below w.heap.size w (w9.setCell ⟨w.heap.size+2,2,none⟩ (.slice Z7 ZC Zg)):=b99.setCell (show w.heap.size<=(⟨w.heap.size+2,2,none⟩:Addr).block from Nat.le_add_right _ _) _;have s10:w.heap.size+3<=(w9.setCell ⟨w.heap.size+2,2,none⟩ (.slice Z7 ZC Zg)).heap.size:=by simp[World.setCell];omega
   replace⟨qo10,qz10,qr10,qz9,qr9,sz⟩:=rr qo10 qz10 qr10 qz9 qr9 sz;clear hS hS1 hS9;go_wp2;refine NoPanic.normal ?_;go_wp2;go_roundw;case measure=>simp[intOf];omega
   case rel=>exact⟨i+1,by omega,by go_num,⟨_,_,_,sz.out,qo10.out⟩,qz10.out,qr10.out,HF,s10⟩
  .have dlt:decide ((i:Int)<(M:Int))=false:=decide_eq_false (by omega);have aX:(jb K R d T).take i=jb K R d T:=List.take_of_length_le (by rw[nV,hM.out];omega);have L8:=hO.out;rw[aX] at L8;have qo0:=qo.out;have qz0:=qz.out;obtain⟨⟨o0,o1,o2⟩,-,-,-⟩:=qo0;obtain⟨⟨y0,y1,y2⟩,f0,f1,f2⟩:=qz0;replace⟨L8,aX⟩:=bD L8 aX;clear z0 z1 z2 Ks YM;go_wp2;refine bodyPost_ret (v:=.agg #[.int .i64 K,.int .i64 RR,.slice oa on oc]) (by simp[results,Tryz.results167,go_sem,y0,y1,y2]) rfl ⟨_,rfl,aB hB (Nat.le_succ _) _ _ _,oa,on,oc,rfl,?_⟩;exact(((L8.out.al (a:=⟨w.heap.size+1,0,none⟩) (by simp) _).al (a:=⟨w.heap.size+1,1,none⟩) (by simp) _).al (a:=⟨w.heap.size+1,2,none⟩) (by simp) _).mono (by omega)
theorem P6(K R d:Nat)(va:Option Addr)(vn vc:Nat)(T:List Int)(w:World)(h:ae w (.slice va vn vc) T)(hr:aG K R T)(hd:R+d<=3)(RR:Int)(Kt:RR=((R+d:Nat):Int)):
 Calls Tryz.prog 138 #[.agg #[.int .i64 K,.int .i64 R,.slice va vn vc],.int .i64 RR] w (jf (λx y w'=>y=.agg #[.int .i64 0,.slice none 0 0,.slice none 0 0]/\∃a n c,x=.agg #[.int .i64 K,.int .i64 RR,.slice a n c]/\aj w.heap.size w' (.slice a n c) (jb K R d T)) w):=by
 have b0:Below w.heap.size w (((w.alloc (.cells #[.int .i64 K,.int .i64 R,.slice va vn vc] 24)).alloc (.cells #[.int .i64 0,.int .i64 0,.slice none 0 0] 24)).alloc (.cells #[.int .i64 0,.slice none 0 0,.slice none 0 0] 36)):=Below.step (ab w (.cells #[.int .i64 K,.int .i64 R,.slice va vn vc] 24)) (Below.step (ab _ (.cells #[.int .i64 0,.int .i64 0,.slice none 0 0] 24)) (ab _ (.cells #[.int .i64 0,.slice none 0 0,.slice none 0 0] 36)));have qr:az (((w.alloc (.cells #[.int .i64 K,.int .i64 R,.slice va vn vc] 24)).alloc (.cells #[.int .i64 0,.int .i64 0,.slice none 0 0] 24)).alloc (.cells #[.int .i64 0,.slice none 0 0,.slice none 0 0] 36)) w.heap.size (.int .i64 K) (.int .i64 R) (.slice va vn vc):=by simp[az,go_sem]
 have qz:az (((w.alloc (.cells #[.int .i64 K,.int .i64 R,.slice va vn vc] 24)).alloc (.cells #[.int .i64 0,.int .i64 0,.slice none 0 0] 24)).alloc (.cells #[.int .i64 0,.slice none 0 0,.slice none 0 0] 36)) (w.heap.size+1) (.int .i64 0) (.int .i64 0) (.slice none 0 0):=by simp[az,go_sem]
 have qe:az (((w.alloc (.cells #[.int .i64 K,.int .i64 R,.slice va vn vc] 24)).alloc (.cells #[.int .i64 0,.int .i64 0,.slice none 0 0] 24)).alloc (.cells #[.int .i64 0,.slice none 0 0,.slice none 0 0] 36)) (w.heap.size+2) (.int .i64 0) (.slice none 0 0) (.slice none 0 0):=by simp[az,go_sem]
 have s0:(((w.alloc (.cells #[.int .i64 K,.int .i64 R,.slice va vn vc] 24)).alloc (.cells #[.int .i64 0,.int .i64 0,.slice none 0 0] 24)).alloc (.cells #[.int .i64 0,.slice none 0 0,.slice none 0 0] 36)).heap.size=w.heap.size+3:=by simp
 have hf:=Ei 0 K R va vn vc T (((w.alloc (.cells #[.int .i64 K,.int .i64 R,.slice va vn vc] 24)).alloc (.cells #[.int .i64 0,.int .i64 0,.slice none 0 0] 24)).alloc (.cells #[.int .i64 0,.slice none 0 0,.slice none 0 0] 36)) (h.below b0);rw[hr.check] at hf;have kK:=hr.r3;obtain⟨W0,mz⟩:=Ex ((((w.alloc (.cells #[.int .i64 K,.int .i64 R,.slice va vn vc] 24)).alloc (.cells #[.int .i64 0,.int .i64 0,.slice none 0 0] 24)).alloc (.cells #[.int .i64 0,.slice none 0 0,.slice none 0 0] 36)));rw[mz] at b0 qr qz qe s0 hf;have SI:=λ(w':World) (h':ae w' (.slice va vn vc) T)=>UX K R d va vn vc T w' h' hr hd RR Kt;replace⟨hf,SI,h,hr,mz⟩:=mV hf SI h hr mz;have e1:(R:Int)<=RR:=by omega
 have e2:RR<=3:=by omega
 have e3:decide (RR<(R:Int))=false:=decide_eq_false (by omega);have e4:decide ((3:Int)<RR)=false:=decide_eq_false (by omega);clear Kt;have qr0:=qr;obtain⟨⟨z0,z1,z2⟩,-,-,-⟩:=qr0;go_enter Tryz.func138,Tryz.ntmps138;go_upto_region 1 with fail;rw[mz.out];go_wp2_with fail;refine hf.out.mono ?_;rintro e w1 ⟨x,rfl,b1,he⟩;obtain rfl:x=.agg #[.int .i64 0,.slice none 0 0,.slice none 0 0]:=he;obtain⟨be,⟨⟨y0,y1,y2⟩,-,-,-⟩⟩:=jm w1 (.int .i64 0) (.slice none 0 0) (.slice none 0 0);have rV:=Below.step b1 be;obtain⟨W2,dZ⟩:=Ex (w1.alloc (.cells #[.int .i64 0,.slice none 0 0,.slice none 0 0] 36));rw[dZ] at be rV y0 y1 y2;replace dZ:=Hd dZ;clear z0 z1 z2;go_upto_region 2 with fail;rw[dZ.out];go_wp2_with fail;refine(fH _ _ _ _ _ _ _ W2).mono ?_;rintro e w3 ⟨_,rfl,b3,rfl⟩;rw[show((0:Int) != 0)=false from rfl];have c3:=Below.step rV b3;obtain⟨⟨z0,z1,z2⟩,-,-,-⟩:=qr.below c3;clear y0 y1 y2;have BK:=Below.step b0 c3;go_wp2_with fail;refine(SI.out w3 (h.out.below BK)).mono ?_;rintro e w4 ⟨x,rfl,b4,a,n,c,rfl,ho⟩;have c4:=Below.step c3 b4;have Zb:=Below.step BK b4;obtain⟨⟨z0',z1',z2'⟩,f0,f1,f2⟩:=qz.below c4;obtain⟨⟨y0,y1,y2⟩,g0,g1,g2⟩:=qe.below c4;have s3:=c3.size;replace ho:=Hd ho;clear z0 z1 z2;go_wp2;refine bodyPost_ret (v:=.tuple #[.agg #[.int .i64 K,.int .i64 RR,.slice a n c],.agg #[.int .i64 0,.slice none 0 0,.slice none 0 0]]) (by simp[results,Tryz.results138,go_sem,z0',z1',z2',y0,y1,y2]) rfl ⟨_,_,rfl,aB (aB Zb (Nat.le_succ _) _ _ _) (by omega) _ _ _,rfl,a,n,c,rfl,?_⟩;refine aj.mono ((((((ho.out.al (a:=⟨w.heap.size+1,0,none⟩) ?_ _).al (a:=⟨w.heap.size+1,1,none⟩) ?_ _).al (a:=⟨w.heap.size+1,2,none⟩) ?_ _).al (a:=⟨w.heap.size+2,0,none⟩) ?_ _).al (a:=⟨w.heap.size+2,1,none⟩) ?_ _).al (a:=⟨w.heap.size+2,2,none⟩) ?_ _) ?_<;>(try show _<w3.heap.size)<;>(try simp only[])<;>omega
theorem zG(K R:Nat)(va:Option Addr)(vn vc:Nat)(T:List Int)(w:World)(h:ae w (.slice va vn vc) T)(hr:aG K R T):
 Calls Tryz.prog 107 #[.agg #[.int .i64 K,.int .i64 R,.slice va vn vc]] w (cz (λx w'=>∃a n c,x=.agg #[.int .i64 K,.int .i64 (fW R),.slice a n c]/\ae w' (.slice a n c) (lJ K R T)) w):=by
 have b0:Below w.heap.size w ((w.alloc (.cells #[.int .i64 K,.int .i64 R,.slice va vn vc] 24)).alloc (.cells #[.int .i64 0,.int .i64 0,.slice none 0 0] 24)):=Below.step (ab w (.cells #[.int .i64 K,.int .i64 R,.slice va vn vc] 24)) (ab _ (.cells #[.int .i64 0,.int .i64 0,.slice none 0 0] 24));have qr:az ((w.alloc (.cells #[.int .i64 K,.int .i64 R,.slice va vn vc] 24)).alloc (.cells #[.int .i64 0,.int .i64 0,.slice none 0 0] 24)) w.heap.size (.int .i64 K) (.int .i64 R) (.slice va vn vc):=by simp[az,go_sem]
 have qz:az ((w.alloc (.cells #[.int .i64 K,.int .i64 R,.slice va vn vc] 24)).alloc (.cells #[.int .i64 0,.int .i64 0,.slice none 0 0] 24)) (w.heap.size+1) (.int .i64 0) (.int .i64 0) (.slice none 0 0):=by simp[az,go_sem]
 have s0:((w.alloc (.cells #[.int .i64 K,.int .i64 R,.slice va vn vc] 24)).alloc (.cells #[.int .i64 0,.int .i64 0,.slice none 0 0] 24)).heap.size=w.heap.size+2:=by simp
 have jA:∀j,j<T.length->(af (.slice va vn vc) j).block<w.heap.size:=λj hj=>World.block_lt_of_cell? _ _ (h.aH j hj);by_cases hR:R=0
 .subst hR;clear b0 qr qz s0;have b0:Below w.heap.size w ((w.alloc (.cells #[.int .i64 K,.int .i64 0,.slice va vn vc] 24)).alloc (.cells #[.int .i64 0,.int .i64 0,.slice none 0 0] 24)):=Below.step (ab w (.cells #[.int .i64 K,.int .i64 0,.slice va vn vc] 24)) (ab _ (.cells #[.int .i64 0,.int .i64 0,.slice none 0 0] 24));have qr:az ((w.alloc (.cells #[.int .i64 K,.int .i64 0,.slice va vn vc] 24)).alloc (.cells #[.int .i64 0,.int .i64 0,.slice none 0 0] 24)) w.heap.size (.int .i64 K) (.int .i64 0) (.slice va vn vc):=by simp[az,go_sem]
  have qz:az ((w.alloc (.cells #[.int .i64 K,.int .i64 0,.slice va vn vc] 24)).alloc (.cells #[.int .i64 0,.int .i64 0,.slice none 0 0] 24)) (w.heap.size+1) (.int .i64 0) (.int .i64 0) (.slice none 0 0):=by simp[az,go_sem]
  have s0:((w.alloc (.cells #[.int .i64 K,.int .i64 0,.slice va vn vc] 24)).alloc (.cells #[.int .i64 0,.int .i64 0,.slice none 0 0] 24)).heap.size=w.heap.size+2:=by simp
  obtain⟨W0,mz⟩:=Ex (((w.alloc (.cells #[.int .i64 K,.int .i64 0,.slice va vn vc] 24)).alloc (.cells #[.int .i64 0,.int .i64 0,.slice none 0 0] 24)));have Ks:=λ(w':World) (h':ae w' (.slice va vn vc) T)=>P6 K 0 1 va vn vc T w' h' hr (by decide) 1 rfl;rw[mz] at b0 qr qz s0;replace⟨Ks,h,hr,jA,mz⟩:=mV Ks h hr jA mz;have qr0:=qr;obtain⟨⟨z0,z1,z2⟩,-,-,-⟩:=qr0;go_enter Tryz.func107,Tryz.ntmps107;go_upto_region 1 with fail;rw[mz.out];go_wp2_with fail;refine(Ks.out W0 (h.out.below b0)).mono ?_;rintro e w1 ⟨_,_,rfl,b1,rfl,a,n,c,rfl,ho⟩;have c1:=Below.step b1 (Below.step (ab w1 (.cells #[.int .i64 K,.int .i64 1,.slice a n c] 24)) (ab _ (.cells #[.int .i64 0,.slice none 0 0,.slice none 0 0] 36)));have qx:az ((w1.alloc (.cells #[.int .i64 K,.int .i64 1,.slice a n c] 24)).alloc (.cells #[.int .i64 0,.slice none 0 0,.slice none 0 0] 36)) w1.heap.size (.int .i64 K) (.int .i64 1) (.slice a n c):=by simp[az,go_sem]
  obtain⟨⟨y0,y1,y2⟩,f0,f1,f2⟩:=qz.below c1;have jK:=(ho.alloc (.cells #[.int .i64 K,.int .i64 1,.slice a n c] 24)).alloc (.cells #[.int .i64 0,.slice none 0 0,.slice none 0 0] 36);have bE:=Below.step b0 c1;clear z0 z1 z2;replace⟨ho,jK⟩:=bD ho jK;go_wp2;refine bodyPost_ret (v:=.agg #[.int .i64 K,.int .i64 1,.slice a n c]) (by simp[results,Tryz.results107,go_sem,y0,y1,y2]) rfl ⟨_,rfl,aB bE (Nat.le_succ _) _ _ _,a,n,c,rfl,?_⟩;refine aj.at (B:=w.heap.size+2) ?_;rw[s0] at jK;exact((jK.out.al (a:=⟨w.heap.size+1,0,none⟩) (by simp) _).al (a:=⟨w.heap.size+1,1,none⟩) (by simp) _).al (a:=⟨w.heap.size+1,2,none⟩) (by simp) _
 .have e1:decide ((0:Int)<(R:Int))=true:=decide_eq_true (by omega);have hk:fW R=R:=if_neg hR;have hkT:lJ K R T=T:=if_neg hR;obtain⟨W0,mz⟩:=Ex (((w.alloc (.cells #[.int .i64 K,.int .i64 R,.slice va vn vc] 24)).alloc (.cells #[.int .i64 0,.int .i64 0,.slice none 0 0] 24)));rw[mz] at b0 qr qz s0;rw[hk,hkT];have b1:=aB b0 (Nat.le_succ _) (.int .i64 K) (.int .i64 R) (.slice va vn vc);have hE:=h.below b1;replace⟨h,hE,hr,jA,mz⟩:=mV h hE hr jA mz;clear hk hkT;obtain⟨⟨z0,z1,z2⟩,-,-,-⟩:=qr;obtain⟨⟨y0,y1,y2⟩,f0,f1,f2⟩:=qz;go_enter Tryz.func107,Tryz.ntmps107;go_upto_region 1 with fail;rw[mz.out];go_wp2;refine bodyPost_ret (v:=.agg #[.int .i64 K,.int .i64 R,.slice va vn vc]) (by simp[results,Tryz.results107,go_sem,y0,y1,y2]) rfl ⟨_,rfl,b1,va,vn,vc,rfl,hE.out⟩
theorem uQ(K R:Nat)(va:Option Addr)(vn vc:Nat)(w:World)(dS:1<=K)(fs:K<=4)(kK:R<=3):
 Calls Tryz.prog 57 #[.agg #[.int .i64 K,.int .i64 R,.slice va vn vc]] w (cz (λx _=>x=.int .i64 (pw K (2*R):Nat)) w):=by
 have b0:=ab w (.cells #[.int .i64 K,.int .i64 R,.slice va vn vc] 24);have hp:=lq K (2*(R:Int)) K (2*R) (w.alloc (.cells #[.int .i64 K,.int .i64 R,.slice va vn vc] 24)) rfl (by omega) dS fs (by omega);replace hp:=Hd hp;go_enter Tryz.func57,Tryz.ntmps57;go_wp2_with fail;refine hp.out.mono ?_;rintro e w1 ⟨rfl,rfl⟩;go_wp2;go_ret;exact⟨_,rfl,b0,rfl⟩
def dQ(n:Nat)(f:Nat->Nat):List Int:=(List.range n).map λ(v:Nat)=>(f v:Int)
def gO(n:Nat)(f:Nat->Int):List Int:=(List.range n).map f
theorem cy(n:Nat)(f:Nat->Nat):(dQ n f).length=n:=by simp[dQ]
theorem aJ(n:Nat)(f:Nat->Int):(gO n f).length=n:=by simp[gO]
theorem jR(n:Nat)(f:Nat->Int)(v:Nat)(hv:v<n):(gO n f).getD v 0=f v:=by simp[gO,List.getD,hv]
theorem rH(n:Nat)(f:Nat->Nat)(v:Nat)(hv:v<n):(dQ n f).getD v 0=(f v:Int):=by simp[dQ,List.getD,hv]
theorem ue(n:Nat)(f:Nat->Int)(v:Nat)(a:Int):(gO n f).set v a=gO n (aN f v a):=by
 apply List.ext_getElem;.simp[gO]
 .intro i h1 h2;simp only[gO,List.getElem_set,List.getElem_map,List.getElem_range,aN];by_cases e:v=i;.rw[if_pos e,if_pos e.symm]
  .rw[if_neg e,if_neg (λq=>e q.symm)]
theorem Bd(n:Nat)(f:Nat->Nat)(v a:Nat):(dQ n f).set v (a:Int)=dQ n (aN f v a):=by
 have h:=ue n (λx=>(f x:Int)) v a;show(gO n λx=>(f x:Int)).set v (a:Int)=_;rw[h];unfold dQ gO;apply List.map_congr_left;intro x _;by_cases e:x=v;.subst e;rw[ai,ai]
 .rw[ag _ _ _ e,ag _ _ _ e]
def sd(calls:List Nat)(idx:Nat->Nat):List Value:=calls.reverse.flatMap λ(v:Nat)=>[.int .i64 (v:Int),.int .i64 (idx v:Int)]
def yl(l:List Nat):List Int:=l.reverse.map λ(v:Nat)=>(v:Int)
theorem eH(l:List Nat):(yl l).length=l.length:=by simp[yl]
theorem rk(v:Nat)(l:List Nat):yl (v::l)=yl l++[(v:Int)]:=by simp[yl]
theorem jW(v:Nat)(l:List Nat)(idx:Nat->Nat):sd (v::l) idx=sd l idx++[.int .i64 (v:Int),.int .i64 (idx v:Int)]:=by simp[sd]
theorem mP(l:List Nat)(idx:Nat->Nat):(sd l idx).length=l.length*2:=by
 induction l with
 | nil=>rfl
 | cons v l ih=>rw[jW,List.length_append,ih];simp;omega
theorem Ac{l:List Nat}{f g:Nat->Nat}(h:∀v∈l,f v=g v):sd l f=sd l g:=by
 induction l with
 | nil=>rfl
 | cons v l ih=>rw[jW,jW,ih λx hx=>h x (List.mem_cons_of_mem _ hx),h v List.mem_cons_self]
theorem Rows.shrink{B:Nat}{w:World}{f:Names}{i:Nat×Nat}{E:TypeId}{size m g cap:Nat}{xs:List Value}(h:Rows B w f)(hi:f i=some ⟨E,size,.slice (some ⟨g,0,none⟩) (m+1) cap,m+1,xs⟩):
 Rows B w (ch f i (some ⟨E,size,.slice (some ⟨g,0,none⟩) m cap,m,xs.take (m*size)⟩)):=by
 refine h.grown hi ⟨rfl,rfl,rfl,Nat.le_refl _,λ_ _ _=>rfl⟩ ?_ (.inl rfl);have ho:w.ownsRow B E size (.slice (some ⟨g,0,none⟩) (m+1) cap) (m+1) xs:=h.1 i _ hi;have hl:=ho.1;have hms:m*size<=(m+1)*size:=Nat.mul_le_mul_right _ (by omega);rcases ho.2 with ⟨e,_⟩ | ⟨g',Rj,cur,e,hB,hg,hn,hm,hs,ht⟩;.cases e
 .injection e with e1 e2 e3;injection e1 with e1;injection e1 with e1;subst e1;subst e3;refine⟨by show(xs.take (m*size)).length=m*size;rw[List.length_take,hl];omega,.inr ⟨g,cap,cur,rfl,hB,hg,by show m<=cap;omega,hm,hs,?_⟩⟩;show cur.toList.take (m*size)=xs.take (m*size);rw[<-ht,List.take_take,Nat.min_eq_left hms]
theorem UU(w:World)(B:Nat)(ty:TypeId)(v:Value)(m:Nat)(xs:List Value)(aO:w.ownsRow B 268 2 v m xs)(b:Nat)(y0 y1:Int)(Pv:∀(j:Nat) (u:Value),([Value.int .i64 y0,.int .i64 y1]:List Value)[j]?=some u->w.cell? ((⟨b,0,none⟩:Addr).add j)=some u)(hlen:m<1000000)(hB:B<=w.heap.size):
 ∃g n' c' w',(Builtin.append_ #[242,242] ty #[v,.slice (some ⟨b,0,none⟩) 1 1]).run Tryz.prog w=.ok (.slice (some ⟨g,0,none⟩) n' c') w'/\n'=m+1/\w'.ownsRow B 268 2 (.slice (some ⟨g,0,none⟩) (m+1) c') (m+1) (xs++[.int .i64 y0,.int .i64 y1]) /\
  ((v.ownBlock=some g/\w.grownBy w' v.ownBlock)\/(g=w.heap.size/\w.grownBy w' none)):=by
 have ht:Tryz.prog.underlying 242=some (.slice 268):=by kernel_rfl
 obtain⟨i,hi,qq,kS,oU⟩:∃i,Tryz.prog.info? 268=some i/\i.zero=some (.agg #[.int .i64 0,.int .i64 0])/\i.size=2/\i.bytes=16:=by
  have:(Tryz.prog.info? 268).map (λi=>(i.zero,i.size,i.bytes))=some (some (.agg #[.int .i64 0,.int .i64 0]),2,16):=by kernel_rfl
  cases h:Tryz.prog.info? 268 with
  | none=>rw[h] at this;cases this
  | some i=>rw[h] at this;simp at this;exact⟨i,rfl,this.1,this.2.1,this.2.2⟩
 have hzc:(Value.agg #[.int .i64 0,.int .i64 0]).cells=#[.int .i64 0,.int .i64 0]:=by rfl
 have rU:=aO.1;have nO:∀(lW:Nat),lW<m+1 ->
  (w.drew.alloc (.cells (xs.toArray++[Value.int .i64 y0,.int .i64 y1].toArray++Builtin.zeroCells (Value.agg #[.int .i64 0,.int .i64 0]).cells (grownCap w (m+1) lW 268-(m+1))) 268)).ownsRow B 268 2 (.slice (some ⟨w.heap.size,0,none⟩) (m+1) (grownCap w (m+1) lW 268)) (m+1) (xs++[.int .i64 y0,.int .i64 y1]):=by
  intro lW ho;have Dw:=grownCap_ge w (m+1) lW 268;have C1:grownCap w (m+1) lW 268<=maxLen:=grownCap_le_maxLen w _ lW 268 (by unfold maxLen;omega);refine⟨by simp[rU];omega,.inr ⟨w.heap.size,_,_,rfl,hB,heap_alloc_new w.drew _,Dw,C1,?_,?_⟩⟩;.simp only[Array.size_append,List.size_toArray,size_zeroCells,hzc,rU];simp;omega
  .simp only[Array.toList_append];exact List.take_left' (by simp[rU];omega)
 have Z6:∀(oo:Obj),w.grownBy (w.drew.alloc oo) none:=λoo=>⟨rfl,rfl,rfl,by simp,λk hk _=>Below.heap_alloc w.drew oo k hk⟩;rcases aO.2 with ⟨rfl,hn⟩ | ⟨g,cap,cur,rfl,NP,hg,WV,C1,uV,HH⟩;.subst hn;obtain rfl:=List.length_eq_zero_iff.1 (show xs.length=0 by omega);have hr:=run_append_nil (P:=Tryz.prog) w 242 ty 268 i _ ht hi qq ⟨b,0,none⟩ 1 1 [.int .i64 y0,.int .i64 y1] (by rw[kS];rfl) Pv (by omega) (by omega) (by rw[oU];decide);have NP:=nO 0 (by omega);simp only[List.nil_append,Array.empty_append,Nat.zero_add] at NP hr;exact⟨_,_,_,_,hr,rfl,by simpa using NP,.inr ⟨rfl,Z6 _⟩⟩
 .by_cases ni:m+1<=cap
  .have hr:=run_append_room (P:=Tryz.prog) w 242 ty 268 i ht hi g m cap cur hg ⟨b,0,none⟩ 1 1 [.int .i64 y0,.int .i64 y1] (by rw[kS];rfl) Pv (by simp[Value.oneCell']) ni (by rw[kS,uV];simp;omega);refine⟨_,_,_,_,hr,rfl,⟨by simp[rU];omega,.inr ⟨g,cap,_,rfl,NP,setRow_heap w g cur _ 268 _ hg,ni,C1,?_,?_⟩⟩,.inl ⟨rfl,⟨rfl,rfl,rfl,by simp,λk _ hk=>setRow_other w g k _ (λe=>hk (by simp[Value.ownBlock,e]))⟩⟩⟩;.simp only[List.size_toArray,List.length_append,List.length_take,List.length_drop,Array.length_toList,kS,uV];simp;omega
   .rw[kS,HH];exact List.take_left' (by simp[rU];omega)
  .have holds:∀j u,xs[j]?=some u->w.cell? ((⟨g,0,none⟩:Addr).add j)=some u:=World.ownsRow.cells aO (g:=g) rfl;have hr:=run_append_grow (P:=Tryz.prog) w 242 ty 268 i _ ht hi qq ⟨g,0,none⟩ m cap xs (by rw[kS];exact rU) holds ⟨b,0,none⟩ 1 1 [.int .i64 y0,.int .i64 y1] (by rw[kS];rfl) Pv (by omega) (by omega) (by
    rw[oU];exact growslice_fits (by omega) (by
     calc (m+1)*16<=1000000*16:=Nat.mul_le_mul_right _ hlen
      _<=_:=by decide));exact⟨_,_,_,_,hr,rfl,nO cap (by omega),.inr ⟨rfl,Z6 _⟩⟩
theorem Uw{w:World}{ops:Array Oper}{rest:List Oper}{o:Oper}{a:Act}{Q:Exit->Act->World->Prop}(jZ:o.guard=none)(s x:Operand)(ho:o.op=.call { callee:=.builtin .append,args:=#[s,x],argTypes:=#[242,242] })(B:Nat)(v:Value)(m:Nat)(xs:List Value)(y0 y1:Int)(b:Nat)(aO:w.ownsRow B 268 2 v m xs)(hs:a.eval s=v)(hx:a.eval x=.slice (some ⟨b,0,none⟩) 1 1)(hb:b=w.heap.size)(hlen:m<1000000)(hB:B<=w.heap.size)(h:∀g c w',w'.ownsRow B 268 2 (.slice (some ⟨g,0,none⟩) (m+1) c) (m+1) (xs++[.int .i64 y0,.int .i64 y1])->((v.ownBlock=some g/\w.grownBy w' v.ownBlock)\/(w.heap.size<=g/\w.grownBy w' none))->wpList Tryz.prog ops Q rest (a.put o.dst (.slice (some ⟨g,0,none⟩) (m+1) c)) w'):
 wpList Tryz.prog ops Q (o::rest) a (w.alloc (.cells #[.int .i64 y0,.int .i64 y1] 268)):=by
 subst hb;refine wpList_plain jZ λK hK=>?_;have pS:∀(j:Nat) (u:Value),([Value.int .i64 y0,.int .i64 y1]:List Value)[j]?=some u->(w.alloc (.cells #[.int .i64 y0,.int .i64 y1] 268)).cell? ((⟨w.heap.size,0,none⟩:Addr).add j)=some u:=by
  intro j u hj;have hn:=heap_alloc_new w (.cells #[.int .i64 y0,.int .i64 y1] 268);match j,hj with
  | 0,hj=>simp at hj;subst hj;simp only[World.cell?,Addr.add,if_true];rw[hn];rfl
  | 1,hj=>simp at hj;subst hj;simp only[World.cell?,Addr.add,show ¬ (1=0) by decide,if_false];rw[hn];rfl
  | j+2,hj=>simp at hj
 obtain⟨g,n',c',w',hr,rfl,h2,h3⟩:=UU (w.alloc (.cells #[.int .i64 y0,.int .i64 y1] 268)) B o.type v m xs (World.ownsRow.alloc aO _) w.heap.size y0 y1 pS hlen (by simp;omega);unfold Oper.wp execOp;simp only[ho,resolve,invoke,builtin,Sem.run_bind,Sem.run_pure,Result.andThen_ok,List.map_toArray,List.map_cons,List.map_nil,hs,hx];rw[hr];have hJ:∀row,w.grownBy (w.alloc (.cells #[.int .i64 y0,.int .i64 y1] 268)) row:=λrow=>World.grownBy_alloc w _ row;rcases h3 with ⟨hv,hg⟩ | ⟨hk,hg⟩;.exact hK _ _ (h g c' w' h2 (.inl ⟨hv,(hJ v.ownBlock).trans hg⟩))
 .exact hK _ _ (h g c' w' h2 (.inr ⟨by rw[hk];simp,(hJ none).trans hg⟩))
structure SN (f:Names) (d:Nat) (nv lv fv pv ov cv:Value) (n:Nat) (S:TS):Prop where
 box:f (0,0)=some ⟨244,7,.slice (some ⟨d,0,none⟩) 1 1,1,[nv,lv,fv,ov,pv,cv,.int .i64 S.time]⟩
 low:f (1,0)=some (aD lv (dQ n S.low))
 Oa:f (2,0)=some (aD fv (dQ n S.found))
 jG:f (3,0)=some (aD ov (yl S.jG))
 part:f (4,0)=some (aD pv (gO n S.part))
 calls:f (5,0)=some ⟨268,2,cv,S.calls.length,sd S.calls S.idx⟩
section
variable {B:Nat} {w:World} {f:Names} {d:Nat} {nv lv fv pv ov cv:Value} {n:Nat} {S:TS}
theorem SN.cell(h:SN f d nv lv fv pv ov cv n S)(hr:Rows B w f)(k:Nat)(hk:k<7):w.cell? ⟨d,k,none⟩=[nv,lv,fv,ov,pv,cv,.int .i64 S.time][k]? :=
 hr.cell h.box (g:=d) (cap:=1) rfl k (by simp;omega)
theorem SN.mQ(h:SN f d nv lv fv pv ov cv n S)(hr:Rows B w f)(k:Nat):w.frozen? ⟨d,k,none⟩=false:=hr.frozen h.box (g:=d) (cap:=1) rfl k
theorem SN.base(h:SN f d nv lv fv pv ov cv n S)(hr:Rows B w f):B<=d:=(hr.lt h.box d rfl).1
theorem SN.YN(h:SN f d nv lv fv pv ov cv n S)(hr:Rows B w f)(t:Nat):∃f',Rows B (w.setCell ⟨d,6,none⟩ (.int .i64 t)) f'/\SN f' d nv lv fv pv ov cv n { S with time:=t }:=by
 refine⟨_,hr.set h.box (g:=d) (cap:=1) rfl 6 (.int .i64 t),⟨ah _ _ _,?_,?_,?_,?_,?_⟩⟩;.rw[ad _ _ (by simp)];exact h.low
 .rw[ad _ _ (by simp)];exact h.Oa
 .rw[ad _ _ (by simp)];exact h.jG
 .rw[ad _ _ (by simp)];exact h.part
 .rw[ad _ _ (by simp)];exact h.calls
theorem SN.MS(h:SN f d nv lv fv pv ov cv n S)(hr:Rows B w f)(v:Nat)(hv:v<n)(t:Nat):∃f',Rows B (w.setCell (af lv v) (.int .i64 t)) f'/\SN f' d nv lv fv pv ov cv n { S with low:=aN S.low v t }:=by
 have hs:=hr.Aw h.low v (by rw[cy];exact hv) (t:Int);rw[Bd] at hs;refine⟨_,hs,⟨?_,ah _ _ _,?_,?_,?_,?_⟩⟩;.rw[ad _ _ (by simp)];exact h.box
 .rw[ad _ _ (by simp)];exact h.Oa
 .rw[ad _ _ (by simp)];exact h.jG
 .rw[ad _ _ (by simp)];exact h.part
 .rw[ad _ _ (by simp)];exact h.calls
theorem SN.Vq(h:SN f d nv lv fv pv ov cv n S)(hr:Rows B w f)(v:Nat)(hv:v<n)(t:Nat):∃f',Rows B (w.setCell (af fv v) (.int .i64 t)) f'/\SN f' d nv lv fv pv ov cv n { S with found:=aN S.found v t }:=by
 have hs:=hr.Aw h.Oa v (by rw[cy];exact hv) (t:Int);rw[Bd] at hs;refine⟨_,hs,⟨?_,?_,ah _ _ _,?_,?_,?_⟩⟩;.rw[ad _ _ (by simp)];exact h.box
 .rw[ad _ _ (by simp)];exact h.low
 .rw[ad _ _ (by simp)];exact h.jG
 .rw[ad _ _ (by simp)];exact h.part
 .rw[ad _ _ (by simp)];exact h.calls
theorem SN.XH(h:SN f d nv lv fv pv ov cv n S)(hr:Rows B w f)(v:Nat)(hv:v<n)(t:Int):∃f',Rows B (w.setCell (af pv v) (.int .i64 t)) f'/\SN f' d nv lv fv pv ov cv n { S with part:=aN S.part v t }:=by
 have hs:=hr.Aw h.part v (by rw[aJ];exact hv) t;rw[ue] at hs;refine⟨_,hs,⟨?_,?_,?_,?_,ah _ _ _,?_⟩⟩;.rw[ad _ _ (by simp)];exact h.box
 .rw[ad _ _ (by simp)];exact h.low
 .rw[ad _ _ (by simp)];exact h.Oa
 .rw[ad _ _ (by simp)];exact h.jG
 .rw[ad _ _ (by simp)];exact h.calls
theorem jr{w':World}{row:Option Nat}(hg:w.grownBy w' row\/w.grownBy w' none):w.grownBy w' row:=by
 rcases hg with h | h;.exact h
 .exact⟨h.os,h.tape,h.output,h.size,λk hk _=>h.block k hk (by simp)⟩
theorem SN.Vl(h:SN f d nv lv fv pv ov cv n S)(hr:Rows B w f)(U8:B<=w.heap.size){w1:World}{DN:Value}(v:Nat)(ho:aj B w1 DN (yl S.jG++[(v:Int)]))(hJ:(dJ DN=dJ ov/\w.grownBy w1 ov.ownBlock)\/(∃k,DN.ownBlock=some k/\w.heap.size<=k/\w.grownBy w1 none)):
 (∀k,k<7->w1.cell? ⟨d,k,none⟩=[nv,lv,fv,ov,pv,cv,.int .i64 S.time][k]?)/\(∀k,w1.frozen? ⟨d,k,none⟩=false)/\Below B w (w1.setCell ⟨d,3,none⟩ DN)/\∃f',Rows B (w1.setCell ⟨d,3,none⟩ DN) f'/\SN f' d nv lv fv pv DN cv n { S with jG:=v::S.jG }:=by
 have hO:=hr.aR h.jG;have hg:w.grownBy w1 ov.ownBlock:=jr (hJ.imp (·.2) (λ⟨_,_,_,q⟩=>q));have uw:DN.ownBlock=ov.ownBlock\/∃k,DN.ownBlock=some k/\w.heap.size<=k:=by
  rcases hJ with ⟨q,_⟩ | ⟨k,h1,h2,_⟩;.obtain⟨a1,n1,c1,e1⟩:=hO.at.shape;obtain⟨a2,n2,c2,e2⟩:=ho.at.shape;exact .inl (cM e1 e2 q)
  .exact .inr ⟨k,h1,h2⟩
 have h1:=hr.grown (r':=aD DN (yl S.jG++[(v:Int)])) h.jG hg ho uw;have hb:ch f (3,0) (some (aD DN (yl S.jG++[(v:Int)]))) (0,0)=some ⟨244,7,.slice (some ⟨d,0,none⟩) 1 1,1,[nv,lv,fv,ov,pv,cv,.int .i64 S.time]⟩:=by rw[ad _ _ (by simp)];exact h.box
 refine⟨λk hk=>h1.cell hb (g:=d) (cap:=1) rfl k (by simpa using hk),λk=>h1.frozen hb (g:=d) (cap:=1) rfl k,((Below.refl _ _).grown hg U8 (λk hk=>(hO.lt k hk).1)).setCell (h.base hr) _,_,h1.set hb (g:=d) (cap:=1) rfl 3 DN,⟨ah _ _ _,?_,?_,?_,?_,?_⟩⟩;.rw[ad _ _ (by simp),ad _ _ (by simp)];exact h.low
 .rw[ad _ _ (by simp),ad _ _ (by simp)];exact h.Oa
 .rw[ad _ _ (by simp),ah,rk]
 .rw[ad _ _ (by simp),ad _ _ (by simp)];exact h.part
 .rw[ad _ _ (by simp),ad _ _ (by simp)];exact h.calls
theorem SN.Qh(h:SN f d nv lv fv pv ov cv n S)(hr:Rows B w f)(U8:B<=w.heap.size){w1:World}{g c:Nat}(v:Nat)(hv:v∉S.calls)(ho:w1.ownsRow B 268 2 (.slice (some ⟨g,0,none⟩) (S.calls.length+1) c) (S.calls.length+1) (sd S.calls S.idx++[.int .i64 (v:Int),.int .i64 0]))(hJ:(cv.ownBlock=some g/\w.grownBy w1 cv.ownBlock)\/(w.heap.size<=g/\w.grownBy w1 none)):
 (∀k,k<7->w1.cell? ⟨d,k,none⟩=[nv,lv,fv,ov,pv,cv,.int .i64 S.time][k]?)/\(∀k,w1.frozen? ⟨d,k,none⟩=false)/\Below B w (w1.setCell ⟨d,5,none⟩ (.slice (some ⟨g,0,none⟩) (S.calls.length+1) c)) /\
   ∃f',Rows B (w1.setCell ⟨d,5,none⟩ (.slice (some ⟨g,0,none⟩) (S.calls.length+1) c)) f'/\SN f' d nv lv fv pv ov (.slice (some ⟨g,0,none⟩) (S.calls.length+1) c) n { S with calls:=v::S.calls,idx:=aN S.idx v 0 }:=by
 have hg:w.grownBy w1 cv.ownBlock:=jr (hJ.imp (·.2) (·.2));have uw:(Value.slice (some ⟨g,0,none⟩) (S.calls.length+1) c).ownBlock=cv.ownBlock\/∃k,(Value.slice (some ⟨g,0,none⟩) (S.calls.length+1) c).ownBlock=some k/\w.heap.size<=k:=by
  rcases hJ with ⟨q,_⟩ | ⟨q,_⟩;.exact .inl q.symm
  .exact .inr ⟨g,rfl,q⟩
 have h1:=hr.grown (r':=⟨268,2,.slice (some ⟨g,0,none⟩) (S.calls.length+1) c,S.calls.length+1,sd S.calls S.idx++[Value.int .i64 (v:Int),Value.int .i64 0]⟩) h.calls hg (show Row.own B w1 ⟨_,_,_,_,_⟩ from ho) uw;have hb:ch f (5,0) (some ⟨268,2,.slice (some ⟨g,0,none⟩) (S.calls.length+1) c,S.calls.length+1,sd S.calls S.idx++[Value.int .i64 (v:Int),Value.int .i64 0]⟩) (0,0)=some ⟨244,7,.slice (some ⟨d,0,none⟩) 1 1,1,[nv,lv,fv,ov,pv,cv,.int .i64 S.time]⟩:=by rw[ad _ _ (by simp)];exact h.box
 refine⟨λk hk=>h1.cell hb (g:=d) (cap:=1) rfl k (by simpa using hk),λk=>h1.frozen hb (g:=d) (cap:=1) rfl k,((Below.refl _ _).grown hg U8 (λk hk=>(hr.lt h.calls k hk).1)).setCell (h.base hr) _,_,h1.set hb (g:=d) (cap:=1) rfl 5 (.slice (some ⟨g,0,none⟩) (S.calls.length+1) c),⟨ah _ _ _,?_,?_,?_,?_,?_⟩⟩;.rw[ad _ _ (by simp),ad _ _ (by simp)];exact h.low
 .rw[ad _ _ (by simp),ad _ _ (by simp)];exact h.Oa
 .rw[ad _ _ (by simp),ad _ _ (by simp)];exact h.jG
 .rw[ad _ _ (by simp),ad _ _ (by simp)];exact h.part
 .rw[ad _ _ (by simp),ah];simp only[jW,ai,List.length_cons];rw[Ac (f:=aN S.idx v 0) (g:=S.idx) (λx hx=>ag _ _ _ (λe=>hv (by rw[<-e];exact hx)))];rfl
theorem SN.YE{v:Nat}{r:List Nat}{g c:Nat}(h:SN f d nv lv fv pv (.slice (some ⟨g,0,none⟩) (r.length+1) c) cv n S)(he:S.jG=v::r)(hr:Rows B w f):
 ∃f',Rows B (w.setCell ⟨d,3,none⟩ (.slice (some ⟨g,0,none⟩) r.length c)) f'/\SN f' d nv lv fv pv (.slice (some ⟨g,0,none⟩) r.length c) cv n { S with jG:=r }:=by
 have ho:=h.jG;rw[he] at ho;have nD:f (3,0)=some ⟨3,1,.slice (some ⟨g,0,none⟩) (r.length+1) c,r.length+1,(yl (v::r)).map (Value.int .i64)⟩:=by
  rw[ho];simp[aD,eH]
 have h1:=hr.shrink nD;have hx:((yl (v::r)).map (Value.int .i64)).take (r.length*1)=(yl r).map (Value.int .i64):=by
  rw[rk,List.map_append,Nat.mul_one];exact List.take_left' (by simp[eH])
 rw[hx] at h1;refine⟨_,h1.set (i:=(0,0)) (by rw[ad _ _ (by simp)];exact h.box) (g:=d) (cap:=1) rfl 3 (.slice (some ⟨g,0,none⟩) r.length c),⟨ah _ _ _,?_,?_,?_,?_,?_⟩⟩;.rw[ad _ _ (by simp),ad _ _ (by simp)];exact h.low
 .rw[ad _ _ (by simp),ad _ _ (by simp)];exact h.Oa
 .rw[ad _ _ (by simp),ah];simp[eH]
 .rw[ad _ _ (by simp),ad _ _ (by simp)];exact h.part
 .rw[ad _ _ (by simp),ad _ _ (by simp)];exact h.calls
theorem SN.Tc{v:Nat}{r:List Nat}{g c:Nat}(h:SN f d nv lv fv pv ov (.slice (some ⟨g,0,none⟩) (r.length+1) c) n S)(he:S.calls=v::r)(hr:Rows B w f):
 ∃f',Rows B (w.setCell ⟨d,5,none⟩ (.slice (some ⟨g,0,none⟩) r.length c)) f'/\SN f' d nv lv fv pv ov (.slice (some ⟨g,0,none⟩) r.length c) n { S with calls:=r }:=by
 have ho:=h.calls;rw[he] at ho;have h1:=hr.shrink ho;have hx:(sd (v::r) S.idx).take (r.length*2)=sd r S.idx:=by
  rw[jW];exact List.take_left' (mP _ _)
 rw[hx] at h1;refine⟨_,h1.set (i:=(0,0)) (by rw[ad _ _ (by simp)];exact h.box) (g:=d) (cap:=1) rfl 5 (.slice (some ⟨g,0,none⟩) r.length c),⟨ah _ _ _,?_,?_,?_,?_,?_⟩⟩;.rw[ad _ _ (by simp),ad _ _ (by simp)];exact h.low
 .rw[ad _ _ (by simp),ad _ _ (by simp)];exact h.Oa
 .rw[ad _ _ (by simp),ad _ _ (by simp)];exact h.jG
 .rw[ad _ _ (by simp),ad _ _ (by simp)];exact h.part
 .rw[ad _ _ (by simp),ah]
theorem SN.bump{v:Nat}{r:List Nat}{g c:Nat}(h:SN f d nv lv fv pv ov (.slice (some ⟨g,0,none⟩) (r.length+1) c) n S)(he:S.calls=v::r)(hv:v∉r)(hr:Rows B w f)(i:Nat):
 ∃f',Rows B (w.setCell ⟨g,r.length*2+1,none⟩ (.int .i64 (i:Int))) f'/\SN f' d nv lv fv pv ov (.slice (some ⟨g,0,none⟩) (r.length+1) c) n { S with idx:=aN S.idx v i }:=by
 have ho:=h.calls;rw[he] at ho;have hs:=hr.set ho (g:=g) (cap:=c) rfl (r.length*2+1) (.int .i64 (i:Int));refine⟨_,hs,⟨?_,?_,?_,?_,?_,?_⟩⟩;.rw[ad _ _ (by simp)];exact h.box
 .rw[ad _ _ (by simp)];exact h.low
 .rw[ad _ _ (by simp)];exact h.Oa
 .rw[ad _ _ (by simp)];exact h.jG
 .rw[ad _ _ (by simp)];exact h.part
 .rw[ah,he];simp only[jW,ai,List.length_cons];rw[List.set_append_right _ _ (by rw[mP];omega),mP,show r.length*2+1-r.length*2=1 by omega,
   Ac (f:=aN S.idx v i) (g:=S.idx) (λx hx=>ag _ _ _ (λe=>hv (by rw[<-e];exact hx)))];rfl
theorem SN.Gt{v:Nat}{r:List Nat}{g c:Nat}(h:SN f d nv lv fv pv ov (.slice (some ⟨g,0,none⟩) (r.length+1) c) n S)(he:S.calls=v::r)(hr:Rows B w f):
 w.cell? ⟨g,r.length*2,none⟩=some (.int .i64 (v:Int))/\w.cell? ⟨g,r.length*2+1,none⟩=some (.int .i64 (S.idx v:Int))/\w.frozen? ⟨g,r.length*2+1,none⟩=false:=by
 have ho:=h.calls;rw[he] at ho;refine⟨?_,?_,hr.frozen ho (g:=g) (cap:=c) rfl _⟩;.rw[hr.cell ho (g:=g) (cap:=c) rfl _ (by simp only[List.length_cons];omega),jW,List.getElem?_append_right (by rw[mP];omega),mP,Nat.sub_self];rfl
 .rw[hr.cell ho (g:=g) (cap:=c) rfl _ (by simp;omega),jW,List.getElem?_append_right (by rw[mP];omega),mP,show r.length*2+1-r.length*2=1 by omega];rfl
theorem qC{E:TypeId}{size m:Nat}{v:Value}{xs:List Value}(h:w.ownsRow B E size v m xs)(hm:0<m):∃g c,v=.slice (some ⟨g,0,none⟩) m c/\m<=c:=by
 rcases h.2 with ⟨_,e⟩ | ⟨g,cap,cur,e,_,_,hn,_⟩;.omega
 .exact⟨g,cap,e,hn⟩
theorem SN.Cf(h:SN f d nv lv fv pv ov cv n S)(hr:Rows B w f)(hc:S.calls≠[]):∃g c,cv=.slice (some ⟨g,0,none⟩) S.calls.length c/\S.calls.length<=c :=
 qC (hr.1 _ _ h.calls) (List.length_pos_iff.2 hc)
theorem SN.SE(h:SN f d nv lv fv pv ov cv n S)(hr:Rows B w f)(hc:S.jG≠[]):∃g c,ov=.slice (some ⟨g,0,none⟩) S.jG.length c/\S.jG.length<=c:=by
 have:=qC (hr.1 _ _ h.jG) (by show 0<(yl S.jG).length;rw[eH];exact List.length_pos_iff.2 hc);obtain⟨g,c,e,e2⟩:=this;have e:ov=.slice (some ⟨g,0,none⟩) (yl S.jG).length c:=e;have e2:(yl S.jG).length<=c:=e2;rw[eH] at e e2;exact⟨g,c,e,e2⟩
theorem SN.adf{adj:Nat->List Nat}(_h:SN f d nv lv fv pv ov cv n S)(hI:gm n adj S)(hc:S.calls=[]):S.jG=[]:=hI.Fg hc
theorem SN.Uq(h:SN f d nv lv fv pv ov cv n S)(hr:Rows B w f):∃a c,cv=.slice a S.calls.length c:=by
 rcases (hr.1 _ _ h.calls).2 with ⟨e,e2⟩ | ⟨g,cap,cur,e,_⟩;.have e2:S.calls.length=0:=e2;have e:cv=.slice none 0 0:=e;exact⟨none,0,by rw[e,e2]⟩
 .exact⟨_,_,e⟩
end
inductive Way (adj:Nat->List Nat):Nat->Nat->List Nat->Prop
 | one (x:Nat):Way adj x x [x]
 | cons {x t y:Nat} {w:List Nat} (ht:t∈adj x) (h:Way adj t y w):Way adj x y (x::w)
theorem Way.goes{adj:Nat->List Nat}{x y:Nat}{w:List Nat}(h:Way adj x y w):bH adj x y:=by
 induction h with
 | one=>exact .refl _
 | cons ht _ ih=>exact(bH.one ht).trans ih
theorem Way.snoc{adj:Nat->List Nat}{x y z:Nat}{w:List Nat}(h:Way adj x y w)(hz:z∈adj y):Way adj x z (w++[z]):=by
 induction h with
 | one=>exact .cons hz (.one _)
 | cons ht _ ih=>exact .cons ht (ih hz)
theorem bH.way{adj:Nat->List Nat}{x y:Nat}(h:bH adj x y):∃w,Way adj x y w:=by
 induction h with
 | refl=>exact⟨_,.one _⟩
 | step _ hz ih=>obtain⟨w,hw⟩:=ih;exact⟨_,hw.snoc hz⟩
theorem Way.ne{adj:Nat->List Nat}{x y:Nat}{w:List Nat}(h:Way adj x y w):∃w',w=x::w':=by
 cases h with
 | one=>exact⟨_,rfl⟩
 | cons=>exact⟨_,rfl⟩
theorem Way.pos{adj:Nat->List Nat}{x y:Nat}{w:List Nat}(h:Way adj x y w):0<w.length:=by
 obtain⟨w',rfl⟩:=h.ne;simp
def M3:List Nat->List Nat->Prop
 | [],_=>True
 | _::_,[]=>False
 | a::l,b::m=>a<b\/(a=b/\M3 l m)
theorem wu:∀l,M3 l l
 | []=>trivial
 | _::l=>.inr ⟨rfl,wu l⟩
structure eA (adj:Nat->List Nat) (x y:Nat) (w:List Nat):Prop where
 way:Way adj x y w
 short:∀u,Way adj x y u->w.length<=u.length
 least:∀u,Way adj x y u->u.length=w.length->M3 w u
theorem eA.tail{adj:Nat->List Nat}{x y t:Nat}{w:List Nat}(h:eA adj x y (x::t::w)):eA adj t y (t::w):=by
 obtain⟨ht,hw⟩:t∈adj x/\Way adj t y (t::w):=by
  have h1:=h.way;cases h1 with
  | cons ht h2=>obtain⟨w',e⟩:=h2.ne;injection e with e1 e2;subst e1;exact⟨ht,h2⟩
 refine⟨hw,λu hu=>?_,λu hu hl=>?_⟩;.have:=h.short _ (.cons ht hu);simp only[List.length_cons] at this ⊢;omega
 .have:=h.least _ (.cons ht hu) (by simp only[List.length_cons] at hl ⊢;omega);exact(this.resolve_left (Nat.lt_irrefl _)).2
theorem Way.mem{adj:Nat->List Nat}{x y:Nat}{w:List Nat}(h:Way adj x y w):∀z∈w,∃u,Way adj z y u/\u.length<=w.length:=by
 induction h with
 | one=>intro z hz;cases List.mem_singleton.1 hz;exact⟨_,.one _,Nat.le_refl _⟩
 | cons ht h ih =>
  intro z hz;rcases List.mem_cons.1 hz with rfl | hz;.exact⟨_,.cons ht h,Nat.le_refl _⟩
  .obtain⟨u,h1,h2⟩:=ih z hz;exact⟨u,h1,by simp only[List.length_cons];omega⟩
theorem eA.nodup{adj:Nat->List Nat}{x y:Nat}{w:List Nat}(h:eA adj x y w):w.Nodup:=by
 induction w generalizing x with
 | nil=>exact List.nodup_nil
 | cons a w ih =>
  obtain⟨w',e⟩:=h.way.ne;injection e with e1 e2;subst e1;subst e2;cases w with
  | nil=>simp
  | cons t w =>
   refine List.nodup_cons.2 ⟨λhm=>?_,ih h.tail⟩;obtain⟨u,h1,h2⟩:=h.tail.way.mem _ hm;have:=h.short u h1;simp only[List.length_cons] at this h2;omega
structure ud (adj:Nat->List Nat) (a:Nat) (came:Nat->Int) (q:List Nat) (par gd:Nat->Nat) (b i:Nat):Prop where
 hd:q[0]?=some a
 nodup:q.Nodup
 pH:∀x,0<=came x↔x∈q
 low:∀x,-1<=came x
 root:came a=a
 EA:gd a=0
 sf:∀(j x:Nat),0<j->q[j]?=some x->par j<b/\par j<j/\∃p,q[par j]?=some p/\came x=(p:Int)/\x∈adj p/\gd x=gd p+1
 mono:∀(j k x y:Nat),0<j->j<k->q[j]?=some x->q[k]?=some y->par j<=par k/\(par j=par k->x<y)
 qW:∀(j k x y:Nat),j<=k->q[j]?=some x->q[k]?=some y->gd x<=gd y
 closed:∀p x,p<i->q[p]?=some x->∀t∈adj x,∃j,q[j]?=some t/\(0<j->par j<=p)
abbrev ze(adj:Nat->List Nat)(a:Nat)(came:Nat->Int)(q:List Nat)(par gd:Nat->Nat)(i:Nat):Prop:=ud adj a came q par gd i i
structure VL (adj:Nat->List Nat) (a:Nat) (came:Nat->Int) (q:List Nat) (par gd:Nat->Nat) (i v:Nat) (l:List Nat):Prop where
 base:ud adj a came q par gd (i+1) i
 cur:q[i]?=some v
 sub:∀t∈l,t∈adj v
 sorted:l.Pairwise (·<=·)
 seen:∀t∈adj v,t∈l\/∃j,q[j]?=some t/\(0<j->par j<=i)
 new:∀j x,0<j->q[j]?=some x->par j=i->∀t∈l,x<=t
variable {adj:Nat->List Nat} {a:Nat} {came:Nat->Int} {q:List Nat} {par gd:Nat->Nat} {b i v:Nat} {l:List Nat}
theorem km{q:List Nat}{j x:Nat}(h:q[j]?=some x):j<q.length:=by
 by_cases e:j<q.length;.exact e
 .rw[List.getElem?_eq_none (by omega)] at h;cases h
theorem get_inj{q:List Nat}(hn:q.Nodup){j k x:Nat}(h:q[j]?=some x)(h2:q[k]?=some x):j=k:=by
 have h1:=km h;exact(List.getElem?_inj h1 hn).1 (h.trans h2.symm)
theorem ud.enter(h:ze adj a came q par gd i)(hv:q[i]?=some v)(hl:∀t,t∈l↔t∈adj v)(hs:l.Pairwise (·<=·)):VL adj a came q par gd i v l:=by
 refine⟨⟨h.hd,h.nodup,h.pH,h.low,h.root,h.EA,λj x hj hx=>?_,h.mono,h.qW,h.closed⟩,hv,λt ht=>(hl t).1 ht,hs,λt ht=>.inl ((hl t).2 ht),λj x hj hx hp=>?_⟩;.obtain⟨h1,h2,h3⟩:=h.sf j x hj hx;exact⟨by omega,h2,h3⟩
 .have:=(h.sf j x hj hx).1;omega
theorem VL.leave(h:VL adj a came q par gd i v []):ze adj a came q par gd (i+1):=by
 refine⟨h.base.hd,h.base.nodup,h.base.pH,h.base.low,h.base.root,h.base.EA,h.base.sf,h.base.mono,h.base.qW,λp x hp hx t ht=>?_⟩;by_cases e:p=i;.subst e;rw[h.cur] at hx;cases hx;exact(h.seen t ht).resolve_left (by simp)
 .exact h.base.closed p x (by omega) hx t ht
theorem VL.lW{t:Nat}(h:VL adj a came q par gd i v (t::l))(ht:0<=came t):VL adj a came q par gd i v l:=by
 refine⟨h.base,h.cur,λx hx=>h.sub x (List.mem_cons_of_mem _ hx),(List.pairwise_cons.1 h.sorted).2,λx hx=>?_,λj x hj hx hp y hy=>h.new j x hj hx hp y (List.mem_cons_of_mem _ hy)⟩;rcases h.seen x hx with q1 | q1
 .rcases List.mem_cons.1 q1 with e | e;.subst e;obtain⟨j,hj⟩:=List.mem_iff_getElem?.1 ((h.base.pH x).1 ht);refine .inr ⟨j,hj,λhj0=>?_⟩;have:=(h.base.sf j x hj0 hj).1;omega
  .exact .inl e
 .exact .inr q1
theorem VL.add{t:Nat}(h:VL adj a came q par gd i v (t::l))(ht:came t<0):
 VL adj a (aN came t (v:Int)) (q++[t]) (aN par q.length i) (aN gd t (gd v+1)) i v l:=by
 have hB:=h.base;have KE:t∉q:=λhm=>by have:=(hB.pH t).2 hm;omega
 have jM:=km h.cur;have Rr:∀j x,(q++[t])[j]?=some x->q[j]?=some x/\j<q.length/\x≠t\/j=q.length/\x=t:=λj x hx=>by
  by_cases e:j<q.length;.rw[List.getElem?_append_left e] at hx;exact .inl ⟨hx,e,λe2=>KE (by rw[<-e2];exact List.mem_of_getElem? hx)⟩
  .rw[List.getElem?_append_right (by omega)] at hx;by_cases e2:j=q.length;.rw[e2] at hx;simp at hx;exact .inr ⟨e2,hx.symm⟩
   .rw[List.getElem?_eq_none (by simp;omega)] at hx;cases hx
 have qp:∀{j x},q[j]?=some x->(q++[t])[j]?=some x:=fun {j x} hx=>by rw[List.getElem?_append_left (km hx)];exact hx
 have bM:∀x,x∈q->x≠t:=λx hx e=>KE (by rw[<-e];exact hx);have hvt:v≠t:=bM v (List.mem_of_getElem? h.cur);have po:∀j,j<q.length->aN par q.length i j=par j:=λj hj=>ag _ _ _ (by omega);have dq:∀x,x∈q->aN gd t (gd v+1) x=gd x:=λx hx=>ag _ _ _ (bM x hx);have haq:a∈q:=List.mem_of_getElem? hB.hd;have hdle:∀x,x∈q->gd x<=gd v+1:=λx hx=>by
  obtain⟨j,hj⟩:=List.mem_iff_getElem?.1 hx;by_cases e:0<j;.obtain⟨h1,h2,p,h3,h4,h5,h6⟩:=hB.sf j x e hj;have:=hB.qW (par j) i p v (by omega) h3 h.cur;omega
  .have:j=0:=by omega
   subst this;rw[hB.hd] at hj;cases hj;have:=hB.EA;omega
 refine⟨⟨qp hB.hd,?_,λx=>?_,λx=>?_,?_,?_,λj x hj hx=>?_,λj k x y hj KF hx hy=>?_,λj k x y KF hx hy=>?_,λp x hp hx t' yi=>?_⟩,qp h.cur,λx hx=>h.sub x (List.mem_cons_of_mem _ hx),(List.pairwise_cons.1 h.sorted).2,λx hx=>?_,λj x hj hx hp y hy=>?_⟩;.exact List.nodup_append.2 ⟨hB.nodup,by simp,λx hx y hy=>by cases List.mem_singleton.1 hy;exact bM x hx⟩
 .by_cases e:x=t;.subst e;rw[ai];simp
  .rw[ag _ _ _ e,hB.pH];simp[e]
 .by_cases e:x=t;.subst e;rw[ai];omega
  .rw[ag _ _ _ e];exact hB.low x
 .rw[ag _ _ _ (bM a haq)];exact hB.root
 .rw[dq a haq];exact hB.EA
 .rcases Rr j x hx with ⟨h1,h2,h3⟩ | ⟨rfl,rfl⟩;.obtain⟨p1,p2,p,p3,p4,p5,p6⟩:=hB.sf j x hj h1;rw[po j h2,ag _ _ _ h3,dq x (List.mem_of_getElem? h1)];exact⟨p1,p2,p,qp p3,p4,p5,by rw[dq p (List.mem_of_getElem? p3)];exact p6⟩
  .rw[ai,ai,ai];exact⟨by omega,jM,v,qp h.cur,rfl,h.sub _ List.mem_cons_self,by rw[dq v (List.mem_of_getElem? h.cur)]⟩
 .rcases Rr j x hx with ⟨h1,h2,h3⟩ | ⟨rfl,rfl⟩
  .rcases Rr k y hy with ⟨k1,k2,k3⟩ | ⟨rfl,rfl⟩;.rw[po j h2,po k k2];exact hB.mono j k x y hj KF h1 k1
   .rw[po j h2,ai];have:=(hB.sf j x hj h1).1;exact⟨by omega,λe=>by have:=h.new j x hj h1 e y List.mem_cons_self;omega⟩
  .rcases Rr k y hy with ⟨k1,k2,k3⟩ | ⟨rfl,rfl⟩<;>omega
 .rcases Rr k y hy with ⟨k1,k2,k3⟩ | ⟨rfl,rfl⟩
  .rcases Rr j x hx with ⟨h1,h2,h3⟩ | ⟨rfl,rfl⟩;.rw[dq x (List.mem_of_getElem? h1),dq y (List.mem_of_getElem? k1)];exact hB.qW j k x y KF h1 k1
   .omega
  .rcases Rr j x hx with ⟨h1,h2,h3⟩ | ⟨h1,rfl⟩;.rw[dq x (List.mem_of_getElem? h1),ai];exact hdle x (List.mem_of_getElem? h1)
   .exact Nat.le_refl _
 .rcases Rr p x hx with ⟨h1,h2,h3⟩ | ⟨h1,rfl⟩;.obtain⟨j,j1,j2⟩:=hB.closed p x hp h1 t' yi;exact⟨j,qp j1,λhj=>by rw[po j (km j1)];exact j2 hj⟩
  .omega
 .by_cases e:x=t;.subst e;exact .inr ⟨q.length,by simp,λ_=>by rw[ai];exact Nat.le_refl _⟩
  .rcases h.seen x hx with q1 | ⟨j,j1,j2⟩;.exact .inl ((List.mem_cons.1 q1).resolve_left e)
   .exact .inr ⟨j,qp j1,λhj=>by rw[po j (km j1)];exact j2 hj⟩
 .rcases Rr j x hx with ⟨h1,h2,h3⟩ | ⟨rfl,rfl⟩;.rw[po j h2] at hp;exact h.new j x hj h1 hp y (List.mem_cons_of_mem _ hy)
  .exact(List.pairwise_cons.1 h.sorted).1 y hy
theorem ud.init(adj:Nat->List Nat)(a:Nat):ze adj a (aN (λ_=>(-1:Int)) a (a:Int)) [a] (λ_=>0) (λ_=>0) 0:=by
 have hg:∀j x,[a][j]?=some x->j=0/\x=a:=λj x hx=>by
  cases j with
  | zero=>simp at hx;exact⟨rfl,hx.symm⟩
  | succ j=>simp at hx
 refine⟨rfl,by simp,λx=>?_,λx=>?_,ai _ _ _,rfl,λj x hj hx=>?_,λj k x y hj KF hx hy=>?_,λj k x y KF hx hy=>Nat.le_refl _,λp x hp=>by omega⟩
 .by_cases e:x=a;.subst e;rw[ai];simp
  .rw[ag _ _ _ e];simp[e]
 .by_cases e:x=a;.subst e;rw[ai];omega
  .rw[ag _ _ _ e];omega
 .have:=(hg j x hx).1;omega
 .have:=(hg j x hx).1;have:=(hg k y hy).1;omega
inductive Tree (came:Nat->Int) (q:List Nat) (adj:Nat->List Nat):Nat->Nat->List Nat->Prop
 | one (x:Nat) (hx:x∈q):Tree came q adj x x [x]
 | cons {x t y:Nat} {w:List Nat} (jx jt:Nat) (hx:q[jx]?=some x) (ht:q[jt]?=some t) (h0:0<jt) (hp:came t=(x:Int)) (h:Tree came q adj t y w):Tree came q adj x y (x::w)
theorem ud.parent(h:ze adj a came q par gd i){jx jt x t:Nat}(hx:q[jx]?=some x)(ht:q[jt]?=some t)(h0:0<jt)(hp:came t=(x:Int)):par jt=jx/\jx<i/\jx<jt/\t∈adj x/\gd t=gd x+1:=by
 obtain⟨h1,h2,p,h3,h4,h5,h6⟩:=h.sf jt t h0 ht;have e:p=x:=by rw[hp] at h4;omega
 subst e;have:=get_inj h.nodup h3 hx;exact⟨this,by omega,by omega,h5,h6⟩
theorem Tree.way(h:ze adj a came q par gd i){x y:Nat}{w:List Nat}(ht:Tree came q adj x y w):Way adj x y w:=by
 induction ht with
 | one=>exact .one _
 | cons jx jt hx ht h0 hp _ ih=>exact .cons (h.parent hx ht h0 hp).2.2.2.1 ih
theorem Tree.adt(h:ze adj a came q par gd i){x y:Nat}{w:List Nat}(ht:Tree came q adj x y w):gd y+1=gd x+w.length:=by
 induction ht with
 | one=>rfl
 | cons jx jt hx ht h0 hp _ ih=>have:=(h.parent hx ht h0 hp).2.2.2.2;simp only[List.length_cons];omega
theorem Tree.last{x y:Nat}{w:List Nat}(ht:Tree came q adj x y w):y∈q:=by
 induction ht with
 | one _ hx=>exact hx
 | cons _ _ _ _ _ _ _ ih=>exact ih
theorem Tree.le(h:ze adj a came q par gd i){x y:Nat}{w:List Nat}(ht:Tree came q adj x y w):∀{j k:Nat},q[j]?=some x->q[k]?=some y->j<=k:=by
 induction ht with
 | one=>intro j k hj hk;exact Nat.le_of_eq (get_inj h.nodup hj hk)
 | cons jx jt hx ht h0 hp _ ih =>
  intro j k hj hk;have h1:=(h.parent hx ht h0 hp).2.2.1;have h2:=ih ht hk;have:=get_inj h.nodup hj hx;omega
theorem ud.vy(h:ze adj a came q par gd i){x y:Nat}{u:List Nat}(hu:Way adj x y u)(hx:x∈q)(hy:y∈q):gd y+1<=gd x+u.length:=by
 induction hu with
 | one=>simp
 | @cons x t y w ht hu ih =>
  obtain⟨jx,Y3⟩:=List.mem_iff_getElem?.1 hx;have hl:=hu.pos;simp only[List.length_cons];by_cases hi:jx<i
  .obtain⟨jt,h1,h2⟩:=h.closed jx x hi Y3 t ht;have:=ih (List.mem_of_getElem? h1) hy;have hd:gd t<=gd x+1:=by
    by_cases h0:0<jt;.obtain⟨_,_,p,p1,_,_,p2⟩:=h.sf jt t h0 h1;have:=h.qW _ _ _ _ (h2 h0) p1 Y3;omega
    .have:jt=0:=by omega
     subst this;rw[h.hd] at h1;cases h1;have:=h.EA;omega
   omega
  .obtain⟨jy,ZV⟩:=List.mem_iff_getElem?.1 hy;by_cases h0:0<jy;.obtain⟨p0,_,p,p1,_,_,p2⟩:=h.sf jy y h0 ZV;have:=h.qW _ _ _ _ (show par jy<=jx by omega) p1 Y3;omega
   .have:jy=0:=by omega
    subst this;rw[h.hd] at ZV;cases ZV;have:=h.EA;omega
theorem ud.longer(h:ze adj a came q par gd i){x y b:Nat}{u w:List Nat}(hu:Way adj x b u)(ht:Tree came q adj y b w){jx jy:Nat}(Y3:q[jx]?=some x)(ZV:q[jy]?=some y)(aT:jx<jy):w.length<u.length:=by
 induction hu generalizing y w jx jy with
 | one=>have:=ht.le h ZV Y3;omega
 | @cons x x' b u' hx' hu ih =>
  cases ht with
  | one=>have:=hu.pos;simp only[List.length_cons,List.length_nil];omega
  | cons jy2 jt Ch SM h0 hp ht =>
   obtain⟨e1,e2,e3,_,_⟩:=h.parent Ch SM h0 hp;have e4:=get_inj h.nodup ZV Ch;obtain⟨Xd,k1,k2⟩:=h.closed jx x (by omega) Y3 x' hx';have:Xd<jt:=by
    by_cases q1:Xd<jt;.exact q1
    .exfalso;by_cases q2:Xd=jt;.rw[q2] at k2;have:=k2 h0;omega
     .have:=(h.mono jt Xd _ _ h0 (by omega) SM k1).1;have:=k2 (by omega);omega
   have:=ih ht k1 SM this;simp only[List.length_cons];omega
theorem ud.lex(h:ze adj a came q par gd i){x b:Nat}{u w:List Nat}(hu:Way adj x b u)(ht:Tree came q adj x b w)(hl:u.length=w.length):M3 w u:=by
 induction hu generalizing w with
 | one =>
  cases ht with
  | one=>exact wu _
  | cons _ _ _ _ _ _ ht=>cases ht<;>simp at hl
 | @cons x x' b u' hx' hu ih =>
  cases ht with
  | one=>have:=hu.pos;simp only[List.length_cons,List.length_nil] at hl;omega
  | @cons _ t _ w' jx jt Y3 SM h0 hp ht =>
   obtain⟨e1,e2,e3,_,_⟩:=h.parent Y3 SM h0 hp;have yg:u'.length=w'.length:=by simpa using hl
   by_cases e:x'=t;.subst e;exact .inr ⟨rfl,ih ht yg⟩
   .refine .inr ⟨rfl,?_⟩;obtain⟨Xd,k1,k2⟩:=h.closed jx x e2 Y3 x' hx';have bM:Xd≠jt:=λq1=>by subst q1;rw[k1] at SM;injection SM with q2;exact e q2
    have Dw:jt<Xd:=by
     by_cases q1:Xd<jt;.have:=h.longer hu ht k1 SM q1;omega
     .omega
    have hm:=h.mono jt Xd t x' h0 Dw SM k1;have:=k2 (by omega);have aT:=hm.2 (by omega);obtain⟨_,rfl⟩:=hu.ne;obtain⟨_,rfl⟩:=(ht.way h).ne;exact .inl aT
theorem ud.first(h:ze adj a came q par gd i){b:Nat}{w:List Nat}(ht:Tree came q adj a b w):eA adj a b w :=
 ⟨ht.way h,λu hu=>by
   have h1:=h.vy hu (List.mem_of_getElem? h.hd) ht.last;have h2:=ht.adt h;omega,λu hu hl=>h.lex hu ht hl⟩
theorem ud.none(h:ze adj a came q par gd i)(hi:q.length<=i){b:Nat}(hb:came b<0):¬ bH adj a b:=λhg=>by
 have:=bH.closed (P:=λx=>x∈q) (λx hx t ht=>by
  obtain⟨j,hj⟩:=List.mem_iff_getElem?.1 hx;obtain⟨k,hk,_⟩:=h.closed j x (by have:=km hj;omega) hj t ht;exact List.mem_of_getElem? hk) hg (List.mem_of_getElem? h.hd);have:=(h.pH b).2 this;omega
def bh(w:World)(v:Value)(G:List (List Int)):Prop :=
 ∃vs:List Value,aY w v vs/\vs.length=G.length/\∀i,i<G.length->ae w (oZ vs i) (G.getD i [])
theorem bh.below{w w':World}{v:Value}{G:List (List Int)}(h:bh w v G)(hb:Below w.heap.size w w'):bh w' v G:=by
 obtain⟨vs,h1,h2,h3⟩:=h;exact⟨vs,h1.below hb,h2,λi hi=>(h3 i hi).below hb⟩
theorem bh.len{w:World}{v:Value}{G:List (List Int)}(h:bh w v G)(ty:TypeId)(w':World):
 (Builtin.len_ #[86] ty #[v]).run Tryz.prog w'=.ok (.int .i64 G.length) w':=by
 obtain⟨vs,h1,h2,h3⟩:=h;rw[h1.len dL,h2]
theorem bh.shape{w:World}{v:Value}{G:List (List Int)}(h:bh w v G):∃a c,v=.slice a G.length c:=by
 obtain⟨vs,⟨a,c,e,_⟩,h2,_⟩:=h;exact⟨a,c,by rw[e,h2]⟩
theorem bh.row{w:World}{v:Value}{G:List (List Int)}(h:bh w v G)(x:Nat)(hx:x<G.length):
 ∃mv,(∀w',(Instr.indexAt 86 v (.int .i64 x)).run Tryz.prog w'=.ok (.pointer (some (af v x))) w')/\w.cell? (af v x)=some mv/\ae w mv (G.getD x []):=by
 obtain⟨vs,h1,h2,h3⟩:=h;exact⟨oZ vs x,λw'=>h1.idx dL x (by omega) w',h1.lp x (by omega),h3 x hx⟩
def aq(G:List (List Int))(v:Nat):List Nat:=(G.getD v []).map Int.toNat
def bR(G:List (List Int)):Prop:=∀v,v<G.length->∀t∈G.getD v [],0<=t/\t<G.length
theorem uC(G:List (List Int))(v:Nat):(aq G v).length=(G.getD v []).length:=by simp[aq]
theorem bR.lt{G:List (List Int)}(h:bR G):∀v,v<G.length->∀t∈aq G v,t<G.length:=by
 intro v hv t ht;obtain⟨i,hi,rfl⟩:=List.mem_map.1 ht;have:=h v hv i hi;omega
theorem bR.get{G:List (List Int)}(h:bR G){v:Nat}(hv:v<G.length){i:Nat}(hi:i<(G.getD v []).length):(G.getD v []).getD i 0=((aq G v).getD i 0:Int):=by
 have hm:(G.getD v [])[i]∈G.getD v []:=List.getElem_mem hi;have:=h v hv _ hm;simp only[aq,List.getD_eq_getElem?_getD (l:=List.map _ _),List.getElem?_map,List.getElem?_eq_getElem hi,Option.map_some,Option.getD_some];rw[List.getD_eq_getElem?_getD,List.getElem?_eq_getElem hi,Option.getD_some];omega
def rowsOf(n:Nat)(F:Nat->List Int):List (List Int):=(List.range n).map F
theorem kR(n:Nat)(F:Nat->List Int):(rowsOf n F).length=n:=by simp[rowsOf]
theorem jX(n:Nat)(F:Nat->List Int)(u:Nat)(hu:u<n):(rowsOf n F).getD u []=F u:=by simp[rowsOf,List.getD,hu]
theorem xj{l:List Value}{k:Nat}{g:Value}(h:k<l.length):oZ (l.set k g) k=g:=by simp[oZ,List.getD,h]
theorem Cs{l:List Value}{k t:Nat}{g:Value}(h:t≠k):oZ (l.set k g) t=oZ l t:=by
 simp[oZ,List.getD,Ne.symm h]
structure WN (f:Names) (ov:Value) (br:List Value) (n:Nat) (F:Nat->List Int):Prop where
 outer:f (1,0)=some (bY 22 ov br)
 len:br.length=n
 rows:∀u,u<n->f (2,u)=some (aD (oZ br u) (F u))
section
variable {B:Nat} {w:World} {f:Names} {ov:Value} {br:List Value} {n:Nat} {F:Nat->List Int}
theorem WN.lists(h:WN f ov br n F)(hr:Rows B w f):bh w ov (rowsOf n F) :=
 ⟨br,(hr.ff h.outer).at,by rw[h.len,kR],λi hi=>by
   rw[kR] at hi;rw[jX n F i hi];exact(hr.aR (h.rows i hi)).at⟩
theorem WN.put(h:WN f ov br n F){w1:World}{u:Nat}(hu:u<n){v':Value}{xs:List Int}(dX:Rows B w1 (ch f (2,u) (some (aD v' xs)))):
 w1.cell? (af ov u)=some (oZ br u)/\w1.frozen? (af ov u)=false/\B<=(af ov u).block /\
 ∃f',Rows B (w1.setCell (af ov u) v') f'/\WN f' ov (br.set u v') n (aN F u xs)/\∀i,i≠(1,0)->i≠(2,u)->f' i=f i:=by
 have ho:ch f (2,u) (some (aD v' xs)) (1,0)=some (bY 22 ov br):=by rw[ad _ _ (by simp)];exact h.outer
 have hl:u<br.length:=by rw[h.len];exact hu
 have hO:=dX.ff ho;refine⟨hO.at.lp u hl,hO.mQ u hl,(hO.jP u hl).2,_,dX.L4 ho u hl v',⟨ah _ _ _,by simpa using h.len,λt ht=>?_⟩,λi h1 h2=>by rw[ad _ _ h1,ad _ _ h2]⟩;rw[ad _ _ (by simp)];by_cases e:t=u;.subst e;rw[ah,xj hl,ai]
 .rw[ad _ _ (by simpa using e),Cs e,ag _ _ _ e];exact h.rows t ht
theorem WN.new(_h:WN f ov br n F)(hr:Rows B w f){w1:World}(u:Nat){v':Value}{xs:List Int}(hb:Below w.heap.size w w1)(hB:B<=w.heap.size)(ho:aj w.heap.size w1 v' xs):Rows B w1 (ch f (2,u) (some (aD v' xs))) :=
 hr.add hb (ho.mono hB) (λk hk=>(ho.lt k hk).1)
theorem WN.app(h:WN f ov br n F)(hr:Rows B w f){w1:World}{u:Nat}(hu:u<n){v':Value}(x:Int)(ho:aj B w1 v' (F u++[x]))(hJ:(dJ v'=dJ (oZ br u)/\w.grownBy w1 (oZ br u).ownBlock)\/(∃k,v'.ownBlock=some k/\w.heap.size<=k/\w.grownBy w1 none)):Rows B w1 (ch f (2,u) (some (aD v' (F u++[x])))):=by
 have hO:=hr.aR (h.rows u hu);refine hr.grown (r':=aD v' (F u++[x])) (h.rows u hu) (jr (hJ.imp (·.2) (λ⟨_,_,_,q⟩=>q))) ho ?_;rcases hJ with ⟨q,_⟩ | ⟨k,h1,h2,_⟩;.obtain⟨a1,n1,c1,e1⟩:=hO.at.shape;obtain⟨a2,n2,c2,e2⟩:=ho.at.shape;exact .inl (cM e1 e2 q)
 .exact .inr ⟨k,h1,h2⟩
theorem WN.elem(h:WN f ov br n F)(hr:Rows B w f)(u:Nat)(hu:u<n)(i:Nat)(hi:i<(F u).length)(x:Int):
 ∃f',Rows B (w.setCell (af (oZ br u) i) (.int .i64 x)) f'/\WN f' ov br n (aN F u ((F u).set i x)):=by
 refine⟨_,hr.Aw (h.rows u hu) i hi x,⟨by rw[ad _ _ (by simp)];exact h.outer,h.len,λt ht=>?_⟩⟩;by_cases e:t=u;.subst e;rw[ah,ai]
 .rw[ad _ _ (by simpa using e),ag _ _ _ e];exact h.rows t ht
end
theorem gS{T E:TypeId}{z:Value}{b:Nat}(oc:OneCell T E z b)(C:Int)(n:Nat)(w:World)(hC:C=n)(hn:n<=4398046511104):
 ∃v w',(Instr.makeSlice T (.int .i64 C) (.int .i64 C)).run Tryz.prog w=.ok v w'/\aZ E w.heap.size w' v (List.replicate n z)/\Below w.heap.size w w':=by
 subst hC;obtain⟨i,hi,qq,kS,oU⟩:=info_parts oc.hi;have hb:=oc.hb;obtain⟨w',qL,r1,r2⟩:=run_make_full (P:=Tryz.prog) w w.heap.size T E i z 1 oc.ht hi qq kS .i64 .i64 n (by
  rw[oU];calc b*n<=32*4398046511104:=Nat.mul_le_mul hb (by omega)
   _<=_:=by decide) (by unfold maxLen;omega) (Nat.le_refl _);refine⟨_,w',qL,?_,(Below.refl _ _).grown r2 (Nat.le_refl _) (by intro k hk;cases hk)⟩;rw[oc.hz,toList_madeCells_one] at r1;simpa [aZ] using r1
def MB(n:Nat):Names:=λi=>if i.1=2/\i.2<n then some (aD (.slice none 0 0) []) else none
theorem EY(B:Nat)(w:World)(n:Nat):Rows B w (MB n):=by
 refine⟨λi r hi=>?_,λi j r s hi _ _=>?_⟩
 .unfold MB at hi;split at hi;.injection hi with hi;subst hi;exact aj.nil B w
  .cases hi
 .left;unfold MB at hi;split at hi;.injection hi with hi;subst hi;rfl
  .cases hi
theorem WN.made{B:Nat}{w w1:World}{ov:Value}(n:Nat)(hb:Below w.heap.size w w1)(hB:B<=w.heap.size)(ho:aZ 22 w.heap.size w1 ov (List.replicate n (.slice none 0 0))):
 ∃f,Rows B w1 f/\WN f ov (List.replicate n (.slice none 0 0)) n (λ_=>[]):=by
 refine⟨_,(EY B w n).add (i:=(1,0)) (r':=bY 22 ov (List.replicate n (.slice none 0 0))) hb (ho.mono hB) (λk hk=>(ho.lt k hk).1),⟨ah _ _ _,by simp,λu hu=>?_⟩⟩;rw[ad _ _ (by simp)];show MB n (2,u)=_;unfold MB;rw[if_pos ⟨rfl,hu⟩];simp[oZ,List.getD,hu]
def Bf(T E:TypeId):Prop:=Tryz.prog.underlying T=some (.slice E)/\∃i,Tryz.prog.info? E=some i/\i.zero=some (.agg #[.int .i64 0,.int .i64 0])/\i.size=2/\i.bytes=16
theorem Me{T E:TypeId}(h1:Tryz.prog.underlying T=some (.slice E))(h2:(Tryz.prog.info? E).map (λi=>(i.zero,i.size,i.bytes))=some (some (.agg #[.int .i64 0,.int .i64 0]),2,16)):Bf T E:=by
 refine⟨h1,?_⟩;cases h:Tryz.prog.info? E with
 | none=>rw[h] at h2;cases h2
 | some i=>rw[h] at h2;simp at h2;exact⟨i,rfl,h2.1,h2.2.1,h2.2.2⟩
theorem Va{T E:TypeId}(tc:Bf T E)(w:World)(B:Nat)(ty:TypeId)(v:Value)(m:Nat)(xs:List Value)(aO:w.ownsRow B E 2 v m xs)(b:Nat)(y0 y1:Int)(Pv:∀(j:Nat) (u:Value),([Value.int .i64 y0,.int .i64 y1]:List Value)[j]?=some u->w.cell? ((⟨b,0,none⟩:Addr).add j)=some u)(hlen:m<1000000)(hB:B<=w.heap.size):
 ∃g n' c' w',(Builtin.append_ #[T,T] ty #[v,.slice (some ⟨b,0,none⟩) 1 1]).run Tryz.prog w=.ok (.slice (some ⟨g,0,none⟩) n' c') w'/\n'=m+1/\w'.ownsRow B E 2 (.slice (some ⟨g,0,none⟩) (m+1) c') (m+1) (xs++[.int .i64 y0,.int .i64 y1]) /\
  ((v.ownBlock=some g/\w.grownBy w' v.ownBlock)\/(g=w.heap.size/\w.grownBy w' none)):=by
 obtain⟨ht,i,hi,qq,kS,oU⟩:=tc;have hzc:(Value.agg #[.int .i64 0,.int .i64 0]).cells=#[.int .i64 0,.int .i64 0]:=by rfl
 have rU:=aO.1;have nO:∀(lW:Nat),lW<m+1 ->
  (w.drew.alloc (.cells (xs.toArray++[Value.int .i64 y0,.int .i64 y1].toArray++Builtin.zeroCells (Value.agg #[.int .i64 0,.int .i64 0]).cells (grownCap w (m+1) lW E-(m+1))) E)).ownsRow B E 2 (.slice (some ⟨w.heap.size,0,none⟩) (m+1) (grownCap w (m+1) lW E)) (m+1) (xs++[.int .i64 y0,.int .i64 y1]):=by
  intro lW ho;have Dw:=grownCap_ge w (m+1) lW E;have C1:grownCap w (m+1) lW E<=maxLen:=grownCap_le_maxLen w _ lW E (by unfold maxLen;omega);refine⟨by simp[rU];omega,.inr ⟨w.heap.size,_,_,rfl,hB,heap_alloc_new w.drew _,Dw,C1,?_,?_⟩⟩;.simp only[Array.size_append,List.size_toArray,size_zeroCells,hzc,rU];simp;omega
  .simp only[Array.toList_append];exact List.take_left' (by simp[rU];omega)
 have Z6:∀(oo:Obj),w.grownBy (w.drew.alloc oo) none:=λoo=>⟨rfl,rfl,rfl,by simp,λk hk _=>Below.heap_alloc w.drew oo k hk⟩;rcases aO.2 with ⟨rfl,hn⟩ | ⟨g,cap,cur,rfl,NP,hg,WV,C1,uV,HH⟩;.subst hn;obtain rfl:=List.length_eq_zero_iff.1 (show xs.length=0 by omega);have hr:=run_append_nil (P:=Tryz.prog) w T ty E i _ ht hi qq ⟨b,0,none⟩ 1 1 [.int .i64 y0,.int .i64 y1] (by rw[kS];rfl) Pv (by omega) (by omega) (by rw[oU];decide);have NP:=nO 0 (by omega);simp only[List.nil_append,Array.empty_append,Nat.zero_add] at NP hr;exact⟨_,_,_,_,hr,rfl,by simpa using NP,.inr ⟨rfl,Z6 _⟩⟩
 .by_cases ni:m+1<=cap
  .have hr:=run_append_room (P:=Tryz.prog) w T ty E i ht hi g m cap cur hg ⟨b,0,none⟩ 1 1 [.int .i64 y0,.int .i64 y1] (by rw[kS];rfl) Pv (by simp[Value.oneCell']) ni (by rw[kS,uV];simp;omega);refine⟨_,_,_,_,hr,rfl,⟨by simp[rU];omega,.inr ⟨g,cap,_,rfl,NP,setRow_heap w g cur _ E _ hg,ni,C1,?_,?_⟩⟩,.inl ⟨rfl,⟨rfl,rfl,rfl,by simp,λk _ hk=>setRow_other w g k _ (λe=>hk (by simp[Value.ownBlock,e]))⟩⟩⟩;.simp only[List.size_toArray,List.length_append,List.length_take,List.length_drop,Array.length_toList,kS,uV];simp;omega
   .rw[kS,HH];exact List.take_left' (by simp[rU];omega)
  .have holds:∀j u,xs[j]?=some u->w.cell? ((⟨g,0,none⟩:Addr).add j)=some u:=World.ownsRow.cells aO (g:=g) rfl;have hr:=run_append_grow (P:=Tryz.prog) w T ty E i _ ht hi qq ⟨g,0,none⟩ m cap xs (by rw[kS];exact rU) holds ⟨b,0,none⟩ 1 1 [.int .i64 y0,.int .i64 y1] (by rw[kS];rfl) Pv (by omega) (by omega) (by
    rw[oU];exact growslice_fits (by omega) (by
     calc (m+1)*16<=1000000*16:=Nat.mul_le_mul_right _ hlen
      _<=_:=by decide));exact⟨_,_,_,_,hr,rfl,nO cap (by omega),.inr ⟨rfl,Z6 _⟩⟩
theorem UH{T E:TypeId}(tc:Bf T E){w:World}{ops:Array Oper}{rest:List Oper}{o:Oper}{a:Act}{Q:Exit->Act->World->Prop}(jZ:o.guard=none)(s x:Operand)(ho:o.op=.call { callee:=.builtin .append,args:=#[s,x],argTypes:=#[T,T] })(B:Nat)(v:Value)(m:Nat)(xs:List Value)(y0 y1:Int)(b:Nat)(aO:w.ownsRow B E 2 v m xs)(hs:a.eval s=v)(hx:a.eval x=.slice (some ⟨b,0,none⟩) 1 1)(hb:b=w.heap.size)(hlen:m<1000000)(hB:B<=w.heap.size)(h:∀g c w',w'.ownsRow B E 2 (.slice (some ⟨g,0,none⟩) (m+1) c) (m+1) (xs++[.int .i64 y0,.int .i64 y1])->((v.ownBlock=some g/\w.grownBy w' v.ownBlock)\/(w.heap.size<=g/\w.grownBy w' none))->wpList Tryz.prog ops Q rest (a.put o.dst (.slice (some ⟨g,0,none⟩) (m+1) c)) w'):
 wpList Tryz.prog ops Q (o::rest) a (w.alloc (.cells #[.int .i64 y0,.int .i64 y1] E)):=by
 subst hb;refine wpList_plain jZ λK hK=>?_;have pS:∀(j:Nat) (u:Value),([Value.int .i64 y0,.int .i64 y1]:List Value)[j]?=some u->(w.alloc (.cells #[.int .i64 y0,.int .i64 y1] E)).cell? ((⟨w.heap.size,0,none⟩:Addr).add j)=some u:=by
  intro j u hj;have hn:=heap_alloc_new w (.cells #[.int .i64 y0,.int .i64 y1] E);match j,hj with
  | 0,hj=>simp at hj;subst hj;simp only[World.cell?,Addr.add,if_true];rw[hn];rfl
  | 1,hj=>simp at hj;subst hj;simp only[World.cell?,Addr.add,show ¬ (1=0) by decide,if_false];rw[hn];rfl
  | j+2,hj=>simp at hj
 obtain⟨g,n',c',w',hr,rfl,h2,h3⟩:=Va tc (w.alloc (.cells #[.int .i64 y0,.int .i64 y1] E)) B o.type v m xs (World.ownsRow.alloc aO _) w.heap.size y0 y1 pS hlen (by simp;omega);unfold Oper.wp execOp;simp only[ho,resolve,invoke,builtin,Sem.run_bind,Sem.run_pure,Result.andThen_ok,List.map_toArray,List.map_cons,List.map_nil,hs,hx];rw[hr];have hJ:∀row,w.grownBy (w.alloc (.cells #[.int .i64 y0,.int .i64 y1] E)) row:=λrow=>World.grownBy_alloc w _ row;rcases h3 with ⟨hv,hg⟩ | ⟨hk,hg⟩;.exact hK _ _ (h g c' w' h2 (.inl ⟨hv,(hJ v.ownBlock).trans hg⟩))
 .exact hK _ _ (h g c' w' h2 (.inr ⟨by rw[hk];simp,(hJ none).trans hg⟩))
def sj(l:List (Int×Int)):List Value:=l.flatMap λp=>[.int .i64 p.1,.int .i64 p.2]
theorem MR(l:List (Int×Int))(a b:Int):sj (l++[(a,b)])=sj l++[.int .i64 a,.int .i64 b]:=by simp[sj]
theorem Ql(l:List (Int×Int))(s:Nat)(h:s<l.length):(sj l)[s*2]?=some (.int .i64 l[s].1)/\(sj l)[s*2+1]?=some (.int .i64 l[s].2):=by
 induction l generalizing s with
 | nil=>simp at h
 | cons p l ih =>
  cases s with
  | zero=>exact⟨rfl,rfl⟩
  | succ s =>
   have:=ih s (by simpa using h);rw[show(s+1)*2=s*2+1+1 by omega];simpa [sj] using this
end Go.Proofs.YtgjfejfeoofkhaaGreatDoor
