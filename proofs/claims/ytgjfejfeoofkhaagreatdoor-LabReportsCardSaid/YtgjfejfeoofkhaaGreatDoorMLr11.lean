/-
  Texts that the proof leans on.
-/
import Derived.Test.YtgjfejfeoofkhaaGreatDoorMLr10
import Derived.ArgAppend
import Derived.Deep.DeepCutAuto
import Derived.Ground.SlgfProg
import Derived.Shelf.SlGeneric
import Derived.Shelf.SlicesE.DeleteFunc
import Derived.Lib.SliceRun
set_option maxHeartbeats 8000000
set_option maxRecDepth 100000
namespace Go.Proofs.YtgjfejfeoofkhaaGreatDoor
open Go.RowKit
structure Kin (w:World) (lo:Nat) (vs:List Value) (xs:List (List Int)):Prop where
 len:vs.length=xs.length
 own:∀t,t<vs.length->aj lo w (oZ vs t) (xs.getD t [])
 two:∀s t,s<vs.length->t<vs.length->s≠t->(oZ vs s).ownBlock=none\/(oZ vs s).ownBlock≠(oZ vs t).ownBlock
theorem IH{w:World}{ops:Array Oper}{rest:List Oper}{o:Oper}{a:Act}{Q:Exit->Act->World->Prop}(jZ:o.guard=none)(s x:Operand)(T:TypeId)(ho:o.op=.call { callee:=.builtin .append,args:=#[s,x],argTypes:=#[T,T] })(v u:Value)(hs:a.eval s=v)(hx:a.eval x=u){v':Value}{w':World}(hr:(Builtin.append_ #[T,T] o.type #[v,u]).run Tryz.prog w=.ok v' w')(h:wpList Tryz.prog ops Q rest (a.put o.dst v') w'):
 wpList Tryz.prog ops Q (o::rest) a w:=by
 refine wpList_plain jZ λK hK=>?_;unfold Oper.wp execOp;simp only[ho,resolve,invoke,builtin,Sem.run_bind,Sem.run_pure,Result.andThen_ok,List.map_toArray,List.map_cons,List.map_nil,hs,hx];rw[hr];exact hK _ _ h
theorem RQ(b j:Nat):(⟨b,0,none⟩:Addr).add j=⟨b,j,none⟩:=by simp[Addr.add_lit]
theorem HO(B:Nat)(ty:TypeId)(w:World)(g C b:Nat)(xs:List Int)(y:Int)(aO:aj B w (.slice (some ⟨g,0,none⟩) xs.length C) xs)(hL:1<=xs.length)(hb:w.cell? ⟨b,0,none⟩=some (.int .i64 y))(hB:B<=w.heap.size)(hlen:xs.length<=1000000):
 ∃v' w',(Builtin.append_ #[22,22] ty #[sliced (some ⟨g,0,none⟩) 1 xs.length C 1,.slice (some ⟨b,0,none⟩) 1 1]).run Tryz.prog w=.ok v' w'/\ae w' v' (xs.drop 1++[y])/\Below B w w'/\w.grownBy w' (some g):=by
 obtain⟨i,hi,qq,kS,oU⟩:=info_parts Fu;have AV:=aO.at;have pS:∀j (hj:j<xs.length),w.cell? ⟨g,j,none⟩=some (.int .i64 xs[j]):=λj hj=>by
  have:=AV.cell j hj;rwa [cj] at this
 have VA:∀(j:Nat) (u:Value),([.int .i64 y]:List Value)[j]?=some u->w.cell? ((⟨b,0,none⟩:Addr).add j)=some u:=by
  intro j u hj;cases j with
  | zero=>simp at hj;subst hj;rw[RQ];exact hb
  | succ j=>simp at hj
 have rZ:∀u∈([.int .i64 y]:List Value),u.oneCell'=true:=by intro u hu;rw[List.mem_singleton] at hu;subst hu;rfl
 rcases aO.2 with ⟨e,_⟩ | ⟨g',cap,cur,e,hBg,hg,hn,hm,hs,ht⟩;.cases e
 injection e with e1 _ e3;obtain rfl:g=g':=by injection e1 with e1;injection e1
 subst e3;have finish:∀v' w',w'.ownsRow w.heap.size 3 1 v' (xs.length-1+1) ((xs.drop 1).map (Value.int .i64)++[.int .i64 y])->ae w' v' (xs.drop 1++[y]):=λv' w' h=>by
  have:aj w.heap.size w' v' (xs.drop 1++[y]):=by
   unfold aj;rw[List.map_append,List.length_append,List.length_drop];exact h
  exact this.at
 by_cases hC:C=1
 .have h1:xs.length=1:=by omega
  have sD:sliced (some ⟨g,0,none⟩) 1 xs.length C 1=.slice (some ⟨g,0,none⟩) 0 0:=by unfold sliced;rw[if_pos hC,h1,hC]
  obtain⟨v',w',hr,r1,r2⟩:=run_append_arg_grows (P:=Tryz.prog) w 22 ty 3 i (.int .i64 0) 1 8 ki hi qq kS oU rfl (by decide) ⟨g,0,none⟩ 0 0 [] rfl (by simp) ⟨b,0,none⟩ 1 1 [.int .i64 y] rfl VA (by omega) (by unfold maxLen;omega) (by omega);have hd:xs.drop 1=[]:=List.drop_eq_nil_of_le (by omega);refine⟨v',w',by rw[sD];exact hr,finish v' w' (by rw[hd,h1];exact r1),(Below.refl _ _).grown r2 hB (by intro k hk;cases hk),⟨r2.os,r2.tape,r2.output,r2.size,λk hk _=>r2.block k hk (by simp)⟩⟩
 .have sD:sliced (some ⟨g,0,none⟩) 1 xs.length C 1=.slice (some ⟨g,1,none⟩) (xs.length-1) (C-1):=by unfold sliced;rw[if_neg hC];rfl
  by_cases ni:xs.length<C
  .have uV:cur.size=C:=by rw[hs,Nat.mul_one]
   have hl:w.cell? ⟨g,xs.length,none⟩=cur[xs.length]?:=cell_of_row w g _ cur _ _ hg;have aat:(w.cell? ⟨g,xs.length,none⟩).isSome=true:=by rw[hl];simp[uV,ni]
   have hfz:w.frozen? ⟨g,xs.length,none⟩=false:=frozen_of_row w g _ cur _ hg;have e1:1+(xs.length-1)*i.size+0=xs.length:=by rw[kS];omega
   have hr:=run_append_room_cells (P:=Tryz.prog) w 22 ty 3 i ki hi g 1 (xs.length-1) (C-1) ⟨b,0,none⟩ 1 1 [.int .i64 y] (by rw[kS];rfl) VA rZ (by omega) (λj hj=>by
    obtain rfl:j=0:=by simpa using hj
    rw[e1];exact aat) (λj hj=>by
    obtain rfl:j=0:=by simpa using hj
    rw[e1];exact hfz);have e2:1+(xs.length-1)*i.size=xs.length:=by rw[kS];omega
   have e3:xs.length-1+1=xs.length:=by omega
   rw[e2,e3] at hr;have e4:w.setCells g xs.length [.int .i64 y]=w.setCell ⟨g,xs.length,none⟩ (.int .i64 y):=rfl;rw[e4] at hr;refine⟨_,_,by rw[sD];exact hr,?_,(Below.refl _ _).setCell hBg _,⟨rfl,rfl,rfl,by simp[World.setCell],λk _ hk=>Below.heap_setCell _ _ _ _ (by intro e;exact hk (by rw[e]))⟩⟩;refine⟨some ⟨g,1,none⟩,C-1,by simp;omega,by simp;omega,by omega,(by intro e;cases e),λj hj=>?_⟩;have hj2:j<xs.length:=by simp at hj;omega
   have ev:af (.slice (some ⟨g,1,none⟩) xs.length (C-1)) j=⟨g,1+j,none⟩:=by simp[af,Addr.add_lit]
   rw[ev];by_cases dw:j+1<xs.length;.rw[World.cell?_setCell_other _ _ _ _ (by intro e;have:=congrArg Addr.off e;dsimp only at this;omega),Nat.add_comm 1 j,pS (j+1) dw];rw[List.getElem_append_left (by simp;omega),List.getElem_drop];simp only[Nat.add_comm 1 j]
   .obtain rfl:j=xs.length-1:=by omega
    rw[show 1+(xs.length-1)=xs.length by omega,World.cell?_setCell_same' _ _ _ aat,List.getElem_append_right (by simp)];simp
  .obtain⟨v',w',hr,r1,r2⟩:=run_append_arg_grows (P:=Tryz.prog) w 22 ty 3 i (.int .i64 0) 1 8 ki hi qq kS oU rfl (by decide) ⟨g,1,none⟩ (xs.length-1) (C-1) ((xs.drop 1).map (Value.int .i64)) (by simp) (λj u hj=>by
    have dw:j<(xs.drop 1).length:=by have:=(List.getElem?_eq_some_iff.1 hj).1;simpa using this
    have wK:j+1<xs.length:=by simp at dw;omega
    rw[Addr.add_lit,Nat.add_comm 1 j,pS (j+1) wK,<-hj];simp[wK]) ⟨b,0,none⟩ 1 1 [.int .i64 y] rfl VA (by omega) (by unfold maxLen;omega) (by omega);exact⟨v',w',by rw[sD];exact hr,finish v' w' r1,(Below.refl _ _).grown r2 hB (by intro k hk;cases hk),⟨r2.os,r2.tape,r2.output,r2.size,λk hk _=>r2.block k hk (by simp)⟩⟩
theorem DG(g L C:Nat)(hL:1<=L)(w:World):(Instr.slice 22 (.slice (some ⟨g,0,none⟩) L C) (some (.int .i64 1)) none none).run Tryz.prog w=.ok (sliced (some ⟨g,0,none⟩) 1 L C 1) w:=by
 have:=run_slice_l (P:=Tryz.prog) w 22 (some ⟨g,0,none⟩) L C we .i64 1 (by omega) (by omega);rw[Bt,LF] at this;exact this
def xe(G:List (List Int))(a:Int):Prop:=a<0\/(G.length:Int)<=a
instance (G:List (List Int)) (a:Int):Decidable (xe G a):=by unfold xe;infer_instance
def qu(G:List (List Int))(a b:Int):ky :=
 match cH G with
 | some t=>some t
 | none=>if xe G a then fresh jQ 1 3 else if xe G b then fresh jQ 2 3 else none
theorem wY{G:List (List Int)}{x y:Nat}(hc:cH G=none)(hx:x<G.length)(hy:y<G.length):qu G x y=none:=by
 unfold qu;rw[hc];dsimp only;rw[if_neg (by unfold xe;omega),if_neg (by unfold xe;omega)]
def SR(r:Nat->Addr)(w:World)(G:List (List Int))(a b:Int)(x y:Value)(w':World):Prop :=
 bf r w' (qu G a b) y/\(qu G a b=none->mD w (aq G) a.toNat b.toNat x w')/\(qu G a b≠none->x=.slice none 0 0)
theorem mD.step{w1 w2 w3:World}{adj:Nat->List Nat}{a b:Nat}{x:Value}(h:mD w2 adj a b x w3)(hs:w1.heap.size<=w2.heap.size):mD w1 adj a b x w3:=by
 rcases h with ⟨u,h1,h2⟩ | h;.exact .inl ⟨u,h1,h2.mono hs⟩
 .exact .inr h
theorem mD.shape{w w':World}{adj:Nat->List Nat}{a b:Nat}{x:Value}(h:mD w adj a b x w'):∃p n c,x=.slice p n c:=by
 rcases h with ⟨u,_,h2⟩ | ⟨_,h⟩;.exact h2.at.shape
 .exact⟨_,_,_,h⟩
theorem Si(r:Nat->Addr)(na:Option Addr)(nc:Nat)(G:List (List Int))(a b:Int)(w:World)(hg:ck r w)(h:bh w (.slice na G.length nc) G)(gQ:∀k,k<G.length->(G.getD k []).length<=17592186044416):
 Calls Tryz.prog 89 #[.slice na G.length nc,.int .i64 a,.int .i64 b] w (jf (SR r w G a b) w):=by
 have hC:=tJ r na nc G w hg h gQ;cases fK:cH G with
 | some t =>
  rw[fK] at hC;have hp:qu G a b=some t:=by unfold qu;rw[fK]
  replace⟨hp,fK,h,hg,gQ⟩:=mV hp fK h hg gQ;go_enter Tryz.func89,Tryz.ntmps89;go_wp2_with fail;refine hC.mono ?_;rintro e w1 ⟨y,rfl,b1,he⟩;obtain⟨T,p,rfl⟩:=he.bX;replace he:=Hd he;go_wp2;go_ret2;exact⟨_,_,rfl,b1,⟨by rw[hp.out];exact he.out,⟨λq=>(by rw[hp.out] at q;cases q),λ_=>rfl⟩⟩⟩
 | none =>
  rw[fK] at hC;obtain⟨hn,sG,bK⟩:=lr fK;by_cases ha:xe G a
  .have hp:qu G a b=fresh jQ 1 3:=by unfold qu;rw[fK];dsimp only;rw[if_pos ha]
   replace⟨hp,fK,h,hg,gQ,bK⟩:=rr hp fK h hg gQ bK;rcases ha with ha | ha;.go_enter Tryz.func89,Tryz.ntmps89;go_wp2_with fail;refine hC.mono ?_;rintro e w1 ⟨y,rfl,b1,he⟩;obtain rfl:=he.dG;clear he hC;go_wp2_with fail;refine(gW r _ _ _ (hg.out.below b1) (by decide) (by decide)).mono ?_;rintro e w2 ⟨y,rfl,b2,he⟩;replace he:=Hd he;go_wp2;go_ret2;exact⟨_,_,rfl,Below.step b1 b2,⟨by rw[hp.out];exact he.out,⟨λq=>(by rw[hp.out] at q;cases q),λ_=>rfl⟩⟩⟩
   .have ha0:¬ a<0:=by omega
    go_enter Tryz.func89,Tryz.ntmps89;go_wp2_with fail;refine hC.mono ?_;rintro e w1 ⟨y,rfl,b1,he⟩;obtain rfl:=he.dG;clear he hC;go_wp2_with fail;refine(gW r _ _ _ (hg.out.below b1) (by decide) (by decide)).mono ?_;rintro e w2 ⟨y,rfl,b2,he⟩;replace he:=Hd he;go_wp2;go_ret2;exact⟨_,_,rfl,Below.step b1 b2,⟨by rw[hp.out];exact he.out,⟨λq=>(by rw[hp.out] at q;cases q),λ_=>rfl⟩⟩⟩
  .have qU:0<=a/\a<G.length:=by unfold xe at ha;omega
   obtain⟨qU,ha2⟩:=qU;by_cases hb:xe G b
   .have hp:qu G a b=fresh jQ 2 3:=by unfold qu;rw[fK];dsimp only;rw[if_neg ha,if_pos hb]
    replace⟨hp,fK,h,hg,gQ,bK⟩:=rr hp fK h hg gQ bK;clear ha;rcases hb with hb | hb;.go_enter Tryz.func89,Tryz.ntmps89;go_wp2_with fail;refine hC.mono ?_;rintro e w1 ⟨y,rfl,b1,he⟩;obtain rfl:=he.dG;clear he hC;go_wp2_with fail;refine(gW r _ _ _ (hg.out.below b1) (by decide) (by decide)).mono ?_;rintro e w2 ⟨y,rfl,b2,he⟩;replace he:=Hd he;go_wp2;go_ret2;exact⟨_,_,rfl,Below.step b1 b2,⟨by rw[hp.out];exact he.out,⟨λq=>(by rw[hp.out] at q;cases q),λ_=>rfl⟩⟩⟩
    .have sl:¬ b<0:=by omega
     go_enter Tryz.func89,Tryz.ntmps89;go_wp2_with fail;refine hC.mono ?_;rintro e w1 ⟨y,rfl,b1,he⟩;obtain rfl:=he.dG;clear he hC;go_wp2_with fail;refine(gW r _ _ _ (hg.out.below b1) (by decide) (by decide)).mono ?_;rintro e w2 ⟨y,rfl,b2,he⟩;replace he:=Hd he;go_wp2;go_ret2;exact⟨_,_,rfl,Below.step b1 b2,⟨by rw[hp.out];exact he.out,⟨λq=>(by rw[hp.out] at q;cases q),λ_=>rfl⟩⟩⟩
   .have kZ:0<=b/\b<G.length:=by unfold xe at hb;omega
    obtain⟨kZ,ij⟩:=kZ;have hp:qu G a b=none:=by unfold qu;rw[fK];dsimp only;rw[if_neg ha,if_neg hb]
    obtain⟨x,rfl⟩:=Int.eq_ofNat_of_zero_le qU;obtain⟨y,rfl⟩:=Int.eq_ofNat_of_zero_le kZ;have hx:x<G.length:=by omega
    have hy:y<G.length:=by omega
    clear ha hb qU kZ ha2 ij;replace⟨hp,fK,h,hg,gQ,bK⟩:=rr hp fK h hg gQ bK;go_enter Tryz.func89,Tryz.ntmps89;go_wp2_with fail;refine hC.mono ?_;rintro e w1 ⟨y',rfl,b1,he⟩;obtain rfl:=he.dG;clear he hC;go_wp2_with fail;refine(D7 na nc G x y _ (h.out.below b1) bK.out (by omega) hx hy gQ.out).mono ?_;rintro e w2 ⟨z,rfl,b2,hz⟩;obtain⟨zp,zn,zc,rfl⟩:=hz.shape;replace hz:=Hd hz;go_wp2;go_ret2;exact⟨_,_,rfl,Below.step b1 b2,⟨by rw[hp.out];rfl,⟨λ_=>by rw[Int.toNat_natCast,Int.toNat_natCast];exact hz.out.step b1.size,λq=>absurd hp.out q⟩⟩⟩
def vi(v n:Nat)(l:List Int):List Int:=l.map λt=>if t=(v:Int) then (n:Int) else t
theorem BD(v n:Nat)(l:List Int):(vi v n l).length=l.length:=by simp[vi]
def qg(G:List (List Int))(v k:Nat):Nat->List Int:=λu=>if u<k then vi v G.length (G.getD u []) else []
def lC(G:List (List Int))(v:Nat):List (List Int):=rowsOf (G.length+1) (qg G v G.length)
def sJ(v n:Nat)(l:List Int)(j:Nat):List Int:=vi v n (l.take j)++l.drop j
theorem Qf(v n:Nat)(l:List Int):sJ v n l 0=l:=by simp[sJ,vi]
theorem Oy(v n:Nat)(l:List Int):sJ v n l l.length=vi v n l:=by simp[sJ]
theorem T6(v n:Nat)(l:List Int)(j:Nat)(hj:j<=l.length):(sJ v n l j).length=l.length:=by simp[sJ,BD];omega
theorem Is(v n:Nat)(a b:List Int):vi v n (a++b)=vi v n a++vi v n b:=by unfold vi;exact List.map_append
theorem EM(v n:Nat)(l:List Int)(j:Nat)(hj:j<l.length):sJ v n l (j+1)=vi v n (l.take j)++(if l[j]=(v:Int) then (n:Int) else l[j])::l.drop (j+1):=by
 unfold sJ;rw[gR l j hj,Is,List.append_assoc];rfl
theorem HU(v n:Nat)(l:List Int)(j:Nat)(hj:j<l.length):sJ v n l j=vi v n (l.take j)++l[j]::l.drop (j+1):=by
 unfold sJ;rw[<-List.drop_eq_getElem_cons hj]
theorem Pe(v n:Nat)(l:List Int)(j:Nat)(hj:j<l.length):sJ v n l (j+1)=(sJ v n l j).set j (if l[j]=(v:Int) then (n:Int) else l[j]):=by
 have hl:(vi v n (l.take j)).length=j:=by rw[BD,List.length_take];omega
 rw[EM v n l j hj,HU v n l j hj,List.set_append_right _ _ (by omega),hl,Nat.sub_self,List.set_cons_zero]
theorem OJ(v n:Nat)(l:List Int)(j:Nat)(hj:j<l.length)(he:l[j]≠(v:Int)):sJ v n l (j+1)=sJ v n l j:=by
 rw[EM v n l j hj,HU v n l j hj,if_neg he]
theorem PI{α:Type}(f:Nat->α)(k:Nat)(a b:α):aN (aN f k a) k b=aN f k b:=by
 funext x;by_cases e:x=k;.subst e;rw[ai,ai]
 .rw[ag _ _ _ e,ag _ _ _ e,ag _ _ _ e]
theorem IL(G:List (List Int))(v k:Nat):aN (qg G v k) k (vi v G.length (G.getD k []))=qg G v (k+1):=by
 funext u;unfold qg;by_cases e:u=k;.subst e;rw[ai,if_pos (by omega)]
 .rw[ag _ _ _ e];by_cases q:u<k;.rw[if_pos q,if_pos (by omega)]
  .rw[if_neg q,if_neg (by omega)]
theorem mJ(G:List (List Int))(v:Nat):(lC G v).length=G.length+1:=kR _ _
theorem yO(G:List (List Int))(v u:Nat)(hu:u<G.length):(lC G v).getD u []=vi v G.length (G.getD u []):=by
 unfold lC;rw[jX _ _ _ (by omega)];exact if_pos hu
theorem BA(G:List (List Int))(v:Nat):(lC G v).getD G.length []=[]:=by
 unfold lC;rw[jX _ _ _ (by omega)];exact if_neg (by omega)
theorem Jb{G:List (List Int)}(bK:bR G)(v:Nat):bR (lC G v):=by
 intro u hu t ht;rw[mJ] at hu ⊢;by_cases e:u<G.length;.rw[yO G v u e] at ht;obtain⟨x,hx,rfl⟩:=List.mem_map.1 ht;have:=bK u e x hx;split<;>omega
 .obtain rfl:u=G.length:=by omega
  rw[BA] at ht;cases ht
theorem yp{G:List (List Int)}(bK:bR G)(v:Nat){u:Nat}(hu:u<G.length)(t:Nat):t∈aq (lC G v) u↔(t≠v/\t∈aq G u/\t<G.length)\/(t=G.length/\v∈aq G u):=by
 unfold aq;rw[yO G v u hu];simp only[List.mem_map,vi];constructor
 .rintro⟨y,⟨x,hx,rfl⟩,rfl⟩;have:=bK u hu x hx;by_cases e:x=(v:Int);.rw[if_pos e];exact .inr ⟨by simp,x,hx,by rw[e];simp⟩
  .rw[if_neg e];exact .inl ⟨by omega,⟨x,hx,rfl⟩,by omega⟩
 .rintro(⟨h1,⟨x,hx,rfl⟩,_⟩ | ⟨rfl,x,hx,he⟩);.have:=bK u hu x hx;exact⟨x,⟨x,hx,if_neg (by omega)⟩,rfl⟩
  .have:=bK u hu x hx;exact⟨(G.length:Int),⟨x,hx,if_pos (by omega)⟩,by simp⟩
def vz(G:List (List Int))(a:Int):ky :=
 match cH G with
 | some t=>some t
 | none=>if xe G a then fresh jQ 1 3 else none
theorem te{G:List (List Int)}{x:Nat}(hc:cH G=none)(hx:x<G.length):vz G x=none:=by
 unfold vz;rw[hc];dsimp only;rw[if_neg (by unfold xe;omega)]
def Xe(w:World)(G:List (List Int))(v:Nat)(x:Value)(w':World):Prop :=
 (∃u,eA (aq (lC G v)) v G.length u/\aj w.heap.size w' x (aw u.dropLast))\/(¬ bH (aq (lC G v)) v G.length/\x=.slice none 0 0)
def Uj(r:Nat->Addr)(w:World)(G:List (List Int))(a:Int)(x y:Value)(w':World):Prop :=
 bf r w' (vz G a) y/\(vz G a=none->Xe w G a.toNat x w')/\(vz G a≠none->x=.slice none 0 0)
theorem aj.cut{B:Nat}{w:World}{g m c:Nat}{xs:List Int}(h:aj B w (.slice (some ⟨g,0,none⟩) (m+1) c) xs)(hl:xs.length=m+1):aj B w (.slice (some ⟨g,0,none⟩) m c) (xs.take m):=by
 rcases h.2 with ⟨e,_⟩ | ⟨g',Rj,cur,e,hB,hg,hn,hm,hs,ht⟩;.cases e
 .injection e with e1 e2 e3;injection e1 with e1;injection e1 with e1;subst e1;subst e3;have AH:(xs.take m).length=m:=by simp;omega
  refine⟨by simp,.inr ⟨g,c,cur,by rw[AH],hB,hg,by rw[AH];omega,hm,hs,?_⟩⟩;rw[AH];rw[hl] at ht;have:=congrArg (List.take m) ht;rw[List.take_take] at this;simp only[Nat.mul_one] at this ⊢;rw[Nat.min_eq_left (by omega)] at this;rw[this,List.map_take]
theorem QC(r:Nat->Addr)(na:Option Addr)(nc:Nat)(G:List (List Int))(a:Int)(w:World)(hg:ck r w)(h:bh w (.slice na G.length nc) G)(gQ:∀k,k<G.length->(G.getD k []).length<=17592186044416):
 Calls Tryz.prog 88 #[.slice na G.length nc,.int .i64 a] w (jf (Uj r w G a) w):=by
 have hC:=tJ r na nc G w hg h gQ;cases fK:cH G with
 | some t =>
  rw[fK] at hC;have hp:vz G a=some t:=by unfold vz;rw[fK]
  replace⟨hp,fK,h,hg,gQ⟩:=mV hp fK h hg gQ;go_enter Tryz.func88,Tryz.ntmps88;go_wp2_with fail;refine hC.mono ?_;rintro e w1 ⟨y,rfl,b1,he⟩;obtain⟨T,p,rfl⟩:=he.bX;replace he:=Hd he;go_wp2;go_ret2;exact⟨_,_,rfl,b1,⟨by rw[hp.out];exact he.out,⟨λq=>(by rw[hp.out] at q;cases q),λ_=>rfl⟩⟩⟩
 | none =>
  rw[fK] at hC;obtain⟨hn,sG,bK⟩:=lr fK;by_cases ha:xe G a
  .have hp:vz G a=fresh jQ 1 3:=by unfold vz;rw[fK];dsimp only;rw[if_pos ha]
   replace⟨hp,fK,h,hg,gQ,bK⟩:=rr hp fK h hg gQ bK;rcases ha with ha | ha;.go_enter Tryz.func88,Tryz.ntmps88;go_wp2_with fail;refine hC.mono ?_;rintro e w1 ⟨y,rfl,b1,he⟩;obtain rfl:=he.dG;clear he hC;go_wp2_with fail;refine(gW r _ _ _ (hg.out.below b1) (by decide) (by decide)).mono ?_;rintro e w2 ⟨y,rfl,b2,he⟩;replace he:=Hd he;go_wp2;go_ret2;exact⟨_,_,rfl,Below.step b1 b2,⟨by rw[hp.out];exact he.out,⟨λq=>(by rw[hp.out] at q;cases q),λ_=>rfl⟩⟩⟩
   .have ha0:¬ a<0:=by omega
    go_enter Tryz.func88,Tryz.ntmps88;go_wp2_with fail;refine hC.mono ?_;rintro e w1 ⟨y,rfl,b1,he⟩;obtain rfl:=he.dG;clear he hC;go_wp2_with fail;refine(gW r _ _ _ (hg.out.below b1) (by decide) (by decide)).mono ?_;rintro e w2 ⟨y,rfl,b2,he⟩;replace he:=Hd he;go_wp2;go_ret2;exact⟨_,_,rfl,Below.step b1 b2,⟨by rw[hp.out];exact he.out,⟨λq=>(by rw[hp.out] at q;cases q),λ_=>rfl⟩⟩⟩
  .have qU:0<=a/\a<G.length:=by unfold xe at ha;omega
   obtain⟨qU,ha2⟩:=qU;obtain⟨v,rfl⟩:=Int.eq_ofNat_of_zero_le qU;have hv:v<G.length:=by omega
   have hp:vz G (v:Int)=none:=te fK hv;have hd1:decide ((v:Int)<0)=false:=by simp
   have hd2:decide (G.length<=v)=false:=by simp;omega
   clear ha qU ha2;replace⟨hp,fK,h,hg,gQ,bK⟩:=rr hp fK h hg gQ bK;go_enter Tryz.func88,Tryz.ntmps88;go_wp2_with fail;refine hC.mono ?_;rintro e w1 ⟨y',rfl,b1,he⟩;obtain rfl:=he.dG;clear he hC;obtain⟨ov,w2,mk,ho,ij⟩:=gS dL ((G.length:Int)+1) (G.length+1) w1 (by omega) (by omega);obtain⟨f1,dX,h1⟩:=WN.made (G.length+1) ij (Nat.le_refl _) ho;have h1:WN f1 ov (List.replicate (G.length+1) (.slice none 0 0)) (G.length+1) (qg G v 0):=by
    have:(fun _:Nat=>([]:List Int))=qg G v 0:=by funext u;unfold qg;rw[if_neg (by omega)]
    rw[<-this];exact h1
   obtain⟨oa,on,oc,rfl⟩:=ho.shape;replace⟨ho,dX⟩:=bD ho dX;go_wp2_with fail;clear mk;go_loopw [35] (λkv wr=>∃(k:Nat) (f:Names) (br:List Value),k<=G.length/\kv=.int .i64 k/\Rows w1.heap.size wr f/\Below w1.heap.size w1 wr/\WN f (.slice oa on oc) br (G.length+1) (qg G v k)) (λkv _=>G.length-(intOf kv).toNat);case atStart=>exact⟨0,f1,_,by omega,rfl,dX.out,ij,h1⟩
   case round =>
    clear h1 ho dX;obtain⟨k,f2,br,hk,rfl,dI,b2,h2⟩:=hrel;obtain⟨wo,rfl⟩:=Ey wr;by_cases aT:k<G.length
    .obtain⟨mv,iR,qK,rI⟩:=h.out.row k aT;have vD:Below w.heap.size w wo:=b1.trans (b2.mono b1.size);have cR:=(vD.cell (World.block_lt_of_cell? _ _ qK)).trans qK;have hM:=rI.below vD;have sk:=gQ.out k aT;have Uu:=IL G v k;generalize G.getD k []=gk at *;have ur:=uI mv gk wo hM sk;have j5:=(dI.ff h2.outer).at;have iO:=λw'=>j5.idx dL k (by rw[h2.len];omega) w';have oz:=λ(w1':World) (v':Value) (xs:List Int)=>h2.put (B:=w1.heap.size) (w1:=w1') (u:=k) (by omega) (v':=v') (xs:=xs);have wC:=λ(w1':World) (v':Value) (xs:List Int)=>h2.new (B:=w1.heap.size) dI (w1:=w1') k (v':=v') (xs:=xs);have T9:=b2.size;generalize af (.slice na G.length nc) k=ra at *;obtain⟨ua,hua⟩:=Ex (af (.slice oa on oc) k);rw[hua] at iO;simp only[hua] at oz;replace⟨hua,oz,wC,j5,dI,hM,rI,ur⟩:=gp hua oz wC j5 dI hM rI ur;replace Uu:=Hd Uu;go_wp2_with fail;clear cR qK iR vD;refine ur.out.mono ?_;rintro e w3 ⟨cv,rfl,b3,p9⟩;have kK:=wC.out w3 cv gk b3 T9 p9;obtain⟨y1,y2,y3,f4,lV,h4,_⟩:=oz.out w3 cv gk kK;obtain⟨va,vn,vc,rfl⟩:=p9.at.shape;have b4:Below w1.heap.size w1 (w3.setCell ua (.slice va vn vc)):=(b2.trans (b3.mono T9)).setCell y3 _;have h4:WN f4 (.slice oa on oc) (br.set k (.slice va vn vc)) (G.length+1) (aN (qg G v k) k (sJ v G.length gk 0)):=by rw[Qf];exact h4
     have lM:=(rI.out.below (b1.trans (b4.mono b1.size))).len;obtain⟨W4,rT⟩:=Ey (w3.setCell ua (.slice va vn vc));rw[<-rT] at lV b4;replace⟨lV,kK,p9⟩:=dO lV kK p9;clear ur;go_upto_region 12 with fail;rw[<-rT];clear rT y1 y2 iO;go_wp2_with fail;clear lM;generalize br.set k (.slice va vn vc)=br at *;go_loopw [47] (λjv wr=>∃(j:Nat) (f:Names) (br:List Value),j<=gk.length/\jv=.int .i64 j/\Rows w1.heap.size wr f/\Below w1.heap.size w1 wr/\WN f (.slice oa on oc) br (G.length+1) (aN (qg G v k) k (sJ v G.length gk j))) (λjv _=>gk.length-(intOf jv).toNat);case atStart=>exact⟨0,f4,_,by omega,rfl,lV.out,b4,h4⟩
     case round =>
      clear lV h4 b4 kK p9 hM dI wC oz j5 y3;obtain⟨j,f5,br,hj,rfl,lK,b5,h5⟩:=hrel;obtain⟨wo,rfl⟩:=Ey wr;by_cases dw:j<gk.length
      .have vt:=rI.out.below (b1.trans (b5.mono b1.size));have iJ:=λw'=>vt.idx j dw w';have cJ:=vt.cell j dw;generalize af mv j=ja at *;have df:=Pe v G.length gk j dw;have sm:=OJ v G.length gk j dw;obtain⟨t,ht⟩:=Ex (gk[j]);rw[ht] at cJ df sm;replace⟨vt,ht⟩:=bD vt ht;by_cases OO:t=(v:Int)
       .have hq:(t==(v:Int))=true:=by simp[OO]
        rw[if_pos OO] at df;have j5:=(lK.ff h5.outer).at;have iO:=λw'=>j5.idx dL k (by rw[h5.len];omega) w';have cO:=j5.lp k (by rw[h5.len];omega);have dK:=lK.aR (h5.rows k (by omega));rw[ai] at dK;have AH:(sJ v G.length gk j).length=gk.length:=T6 _ _ _ _ hj;have iE:=λw'=>dK.at.idx j (by rw[AH];exact dw) w';have cE:=dK.at.aH j (by rw[AH];exact dw);have fE:=dK.mQ j (by rw[AH];exact dw);have kE:=(dK.yB.jP j (by rw[List.length_map,AH];exact dw)).2;obtain⟨f6,uN,h6⟩:=h5.elem lK k (by omega) j (by rw[ai,AH];exact dw) (G.length:Int);rw[ai,<-df,PI] at h6;have b6:Below w1.heap.size w1 (wo.setCell (af (oZ br k) j) (.int .i64 (G.length:Int))):=b5.setCell kE _;generalize af (oZ br k) j=ea at *;generalize oZ br k=ev at *;generalize af (.slice oa on oc) k=ua at *;generalize (sJ v G.length gk j).getD j 0=eo at *;subst OO;replace⟨uN,lK,j5,dK,df,sm,AH⟩:=zb uN lK j5 dK df sm AH;go_wp2;go_roundw;case measure=>simp[intOf];omega
        case rel=>exact⟨j+1,f6,br,by omega,by go_num,uN.out,b6,h6⟩
       .have hq:(t==(v:Int))=false:=by simp[OO]
        have h6:=h5;rw[<-sm OO] at h6;replace⟨lK,df,sm⟩:=dO lK df sm;go_wp2;go_roundw;case measure=>simp[intOf];omega
        case rel=>exact⟨j+1,f5,br,by omega,by go_num,lK.out,b5,h6⟩
      .obtain rfl:j=gk.length:=by omega
       rw[Oy,Uu.out] at h5;replace lK:=Hd lK;go_wp2;go_roundw;case measure=>simp[intOf];omega
       case rel=>exact⟨k+1,f5,br,by omega,by go_num,lK.out,b5,h5⟩
    .obtain rfl:k=G.length:=by omega
     have hWL:=h2.lists dI;have hWL:bh wo (.slice oa on oc) (lC G v):=hWL;obtain⟨oa',oc',he⟩:=hWL.shape;injection he with he1 GL Rs;clear he1 Rs;rw[GL] at hWL;have hF:=D7 oa oc (lC G v) v G.length wo hWL (Jb bK.out v) (by rw[mJ];omega) (by rw[mJ];omega) (by rw[mJ];omega) (λu hu=>by
      rw[mJ] at hu;by_cases e:u<G.length;.rw[yO G v u e,BD];exact gQ.out u e
      .obtain rfl:u=G.length:=by omega
       rw[BA];exact Nat.zero_le _);rw[<-GL] at hF;replace⟨hF,GL,hWL,dI⟩:=gF hF GL hWL dI;go_wp2_with fail;refine hF.out.mono ?_;rintro e w5 ⟨xv,rfl,b5,hx⟩;have vD:Below w.heap.size w wo:=b1.trans (b2.mono b1.size);rcases hx with ⟨u,hu,AY⟩ | ⟨ig,rfl⟩
     .have yA:=hu.way.pos;obtain⟨g,c,e1,e2⟩:=qC (show w5.ownsRow wo.heap.size 3 1 xv (aw u).length ((aw u).map (Value.int .i64)) from AY) (by rw[aA];exact yA);obtain⟨m,hm⟩:∃m,u.length=m+1:=⟨u.length-1,by omega⟩;rw[aA,hm] at e1 e2;subst e1;have hcut:=AY.cut (by rw[aA,hm]);have oQ:(aw u).take m=aw u.dropLast:=by
       unfold aw;rw[List.dropLast_eq_take,hm,<-List.map_take];rfl
      rw[oQ] at hcut;have hmb:m<=9223372036854775806:=by
       have:=AY.at.gN;rw[aA,hm] at this;omega
      have Tf:IntKind.i64.wrap (m:Int)=m:=db (by omega) (by omega);have sD:(0<=(m:Int)/\(m:Int)<=(c:Int)):=⟨by omega,by omega⟩;have bM:(((m:Int)+1)==0)=false:=by rw[beq_eq_false_iff_ne];omega
      replace⟨hcut,AY,oQ,hm⟩:=gF hcut AY oQ hm;go_wp2;go_ret2;exact⟨_,_,rfl,Below.step vD b5,⟨by rw[hp.out];rfl,⟨λ_=>by rw[Int.toNat_natCast];exact .inl ⟨u,hu,hcut.out.mono vD.size⟩,λq=>absurd hp.out q⟩⟩⟩
     .replace ig:=Hd ig;go_wp2;go_ret2;exact⟨_,_,rfl,Below.step vD b5,⟨by rw[hp.out];rfl,⟨λ_=>by rw[Int.toNat_natCast];exact .inr ⟨ig.out,rfl⟩,λq=>absurd hp.out q⟩⟩⟩
def XU:List (List Int):=[[1],[2],[1,3],[4],[4],[0]]
theorem adj6(v:Nat):aq XU v=[[1],[2],[1,3],[4],[4],[0]].getD v []:=by
 match v with
 | 0=>rfl
 | 1=>rfl
 | 2=>rfl
 | 3=>rfl
 | 4=>rfl
 | 5=>rfl
 | n+6=>rfl
theorem g12:bH (aq XU) 1 2:=.one (by rw[adj6];decide)
theorem g21:bH (aq XU) 2 1:=.one (by rw[adj6];decide)
theorem g23:bH (aq XU) 2 3:=.one (by rw[adj6];decide)
theorem TQ(w:World)(xs:List Int)(cs:Array Value)(hc:cs.toList=xs.map (Value.int .i64))(hl:xs.length<=10):ae (w.alloc (.cells cs 3)) (.slice (some ⟨w.heap.size,0,none⟩) xs.length xs.length) xs :=
 (aj.lit w.heap.size w (Nat.le_refl _) xs (by unfold maxLen;omega) cs hc xs.length rfl).at
def mW(G:List (List Int))(u:List Nat):Prop:=∀i x,u[i]?=some x->x<G.length/\∀j y,i=j+1->u[j]?=some y->(x:Int)∈G.getD y []
theorem Wv{G:List (List Int)}(bK:bR G){y x:Nat}(hy:y<G.length)(h:x∈aq G y):(x:Int)∈G.getD y []:=by
 obtain⟨z,hz,rfl⟩:=List.mem_map.1 h;have:=bK y hy z hz;rwa [Int.toNat_of_nonneg this.1]
theorem EE{G:List (List Int)}(bK:bR G){x y:Nat}{w:List Nat}(h:Way (aq G) x y w)(hx:x<G.length):mW G w:=by
 induction h with
 | one x =>
  intro i z hz;have hi:=km hz;simp only[List.length_cons,List.length_nil] at hi;obtain rfl:i=0:=by omega
  injection hz with hz;subst hz;exact⟨hx,λj y e=>by omega⟩
 | @cons x t y w ht h ih =>
  have gY:=bK.lt x hx t ht;have ih:=ih gY;intro i z hz;cases i with
  | zero=>injection hz with hz;subst hz;exact⟨hx,λj y e=>by omega⟩
  | succ i =>
   have hz':w[i]?=some z:=hz;refine⟨(ih i z hz').1,λj y e hy=>?_⟩;have e:j=i:=by omega
   subst e;cases j with
   | zero =>
    injection hy with hy;subst hy;obtain⟨w',rfl⟩:=h.ne;injection hz' with hz';subst hz';exact Wv bK hx ht
   | succ j=>exact(ih (j+1) z hz').2 j y rfl hy
theorem mW.dropLast{G:List (List Int)}{u:List Nat}(h:mW G u):mW G u.dropLast:=by
 have up:∀i x,u.dropLast[i]?=some x->u[i]?=some x:=λi x hx=>by
  rw[List.getElem?_dropLast] at hx;split at hx;.exact hx
  .cases hx
 intro i x hx;exact⟨(h i x (up i x hx)).1,λj y e hy=>(h i x (up i x hx)).2 j y e (up j y hy)⟩
theorem mW.nil(G:List (List Int)):mW G []:=λi x hx=>by simp at hx
def uH(adj:Nat->List Nat)(a b:Nat)(u:List Nat):Prop:=(u≠[]/\eA adj a b u)\/(u=[]/\¬ bH adj a b)
theorem uH.goes{adj:Nat->List Nat}{a b:Nat}{u:List Nat}(h:uH adj a b u):u≠[]↔bH adj a b:=by
 rcases h with ⟨h1,h2⟩ | ⟨h1,h2⟩;.exact⟨λ_=>h2.way.goes,λ_=>h1⟩
 .exact⟨λq=>absurd h1 q,λq=>absurd q h2⟩
theorem uH.chain{G:List (List Int)}(bK:bR G){a b:Nat}{u:List Nat}(h:uH (aq G) a b u)(ha:a<G.length):mW G u:=by
 rcases h with ⟨_,h2⟩ | ⟨h1,_⟩;.exact EE bK h2.way ha
 .subst h1;exact mW.nil G
theorem uH.len{G:List (List Int)}(bK:bR G){a b:Nat}{u:List Nat}(h:uH (aq G) a b u)(ha:a<G.length):u.length<=G.length:=by
 have hc:=h.chain bK ha;rcases h with ⟨_,q⟩ | ⟨q,_⟩;.exact eK G.length u q.nodup (λx hx=>by
   obtain⟨i,hi⟩:=List.mem_iff_getElem?.1 hx;exact(hc i x hi).1)
 .subst q;simp
def Jn(G:List (List Int))(a:Nat)(l:List Nat):Prop:=l=[]\/∃y,y<G.length/\a∈aq G y/\Way (aq G) a y l
theorem Jn.chain{G:List (List Int)}(bK:bR G){a:Nat}{l:List Nat}(h:Jn G a l)(ha:a<G.length):mW G l:=by
 rcases h with h | ⟨y,_,_,h⟩;.subst h;exact mW.nil G
 .exact EE bK h ha
def tm(l:List Nat)(D:Nat->Int)(k:Nat)(b:Int):Prop :=
 (b=-1/\∀t∈l.take k,D t<0)\/∃m:Nat,b=m/\m∈l.take k/\0<=D m/\∀t∈l.take k,0<=D t->D m<D t\/(D m=D t/\m<=t)
section
variable {l:List Nat} {D:Nat->Int} {k:Nat} {b:Int}
theorem tm.low(h:tm l D k b):-1<=b:=by
 rcases h with ⟨h,_⟩ | ⟨m,h,_⟩<;>omega
theorem tm.fst(h:tm l D k b){t:Nat}(ht:l[k]?=some t)(hd:0<=D t)(hb:b<0):tm l D (k+1) t:=by
 refine .inr ⟨t,rfl,(qO ht t).2 (.inr rfl),hd,λx hx hxd=>?_⟩;rcases (qO ht x).1 hx with hx | rfl
 .rcases h with ⟨h1,h2⟩ | ⟨m,h1,_⟩;.have:=h2 x hx;omega
  .omega
 .exact .inr ⟨rfl,Nat.le_refl _⟩
theorem tm.take{m:Nat}(h:tm l D k (m:Int)){t:Nat}(ht:l[k]?=some t)(hd:0<=D t)(hb:D t<D m\/(D t=D m/\t<m)):tm l D (k+1) t:=by
 refine .inr ⟨t,rfl,(qO ht t).2 (.inr rfl),hd,λx hx hxd=>?_⟩;rcases (qO ht x).1 hx with hx | rfl
 .rcases h with ⟨h1,h2⟩ | ⟨m',h1,h2,h3,h4⟩;.omega
  .obtain rfl:m=m':=by omega
   have:=h4 x hx hxd;omega
 .exact .inr ⟨rfl,Nat.le_refl _⟩
end
theorem Way.ends{adj:Nat->List Nat}{x y:Nat}{w:List Nat}(h:Way adj x y w):w.dropLast++[y]=w:=by
 induction h with
 | one=>rfl
 | @cons x t y w ht h ih =>
  have hp:=h.pos;have:w≠[]:=by intro q;subst q;simp at hp
  rw[List.dropLast_cons_of_ne_nil this,List.cons_append,ih]
theorem Ek{G:List (List Int)}(bK:bR G){c:Nat}(hc:c<G.length)(h:kj (aq G) c):bH (aq (lC G c)) c G.length:=by
 have claim:∀a z,bH (aq G) a z->a<G.length->bH (aq (lC G c)) a G.length\/(bH (aq (lC G c)) a z/\(z=c->a=c)):=by
  intro a z hg ha;induction hg with
  | refl=>exact .inr ⟨.refl _,id⟩
  | @step b t hb ht ih =>
   have hbn:=yk bK hb ha;rcases ih with ih | ⟨ih,_⟩;.exact .inl ih
   .by_cases e:t=c;.subst e;exact .inl (.step ih ((yp bK t hbn _).2 (.inr ⟨rfl,ht⟩)))
    .exact .inr ⟨.step ih ((yp bK c hbn _).2 (.inl ⟨e,ht,bK.lt _ hbn _ ht⟩)),λq=>absurd q e⟩
 obtain⟨t,ht,hg⟩:=h;have gY:=bK.lt _ hc _ ht;by_cases e:t=c;.subst e;exact .one ((yp bK t hc _).2 (.inr ⟨rfl,ht⟩))
 .have h1:bH (aq (lC G c)) c t:=.one ((yp bK c hc _).2 (.inl ⟨e,ht,gY⟩));rcases claim t c hg gY with h2 | ⟨_,h2⟩;.exact h1.trans h2
  .exact absurd (h2 rfl) e
def EI(G:List (List Int))(v:Nat)(L C Q:List Nat):Prop :=
 ∃c d u1 u2 I O,Fi (aq (E2 G)) (kj (aq G)) v c/\Fi (aq G) (kj (aq G)) v d/\c<G.length/\d<G.length/\eA (aq (lC G c)) c G.length u1/\eA (aq (lC G d)) d G.length u2/\eA (aq G) c v I/\eA (aq G) v d O/\L=u1.dropLast/\C=I++O.drop 1/\Q=u2.dropLast.drop 1++[d]
theorem tN{G:List (List Int)}(bK:bR G){x y:Nat}{u:List Nat}(h:eA (aq G) x y u)(hx:x<G.length):u.length<=G.length/\∀z∈u,z<G.length:=by
 have aT:∀z∈u,z<G.length:=by
  have hw:=h.way;clear h;induction hw with
  | one x=>intro z hz;rw[List.mem_singleton] at hz;subst hz;exact hx
  | @cons x t y w ht hw ih =>
   intro z hz;rcases List.mem_cons.1 hz with rfl | hz;.exact hx
   .exact ih (bK.lt _ hx _ ht) z hz
 exact⟨eK _ _ h.nodup aT,aT⟩
theorem Bw{G:List (List Int)}(bK:bR G){c:Nat}(hc:c<G.length){u:List Nat}(h:eA (aq (lC G c)) c G.length u):2<=u.length/\u.length<=G.length+1/\∀z∈u.dropLast,z<G.length:=by
 obtain⟨h1,h2⟩:=tN (Jb bK c) h (by rw[mJ];omega);rw[mJ] at h1 h2;have Rx:=h.nodup;have he:=h.way.ends;have hp:=h.way.pos;refine⟨?_,h1,λz hz=>?_⟩
 .apply Classical.byContradiction;intro q;have hl:u.length=1:=by omega
  obtain⟨w',rfl⟩:=h.way.ne;have:w'=[]:=List.length_eq_zero_iff.1 (by simpa using hl);subst this;simp at he;omega
 .have h3:=h2 z (List.dropLast_subset _ hz);have:z≠G.length:=λe=>by
   subst e;rw[<-he] at Rx;have:=(List.nodup_append.1 Rx).2.2 _ hz _ (List.mem_singleton.2 rfl);exact this rfl
  omega
theorem D8(a b:List Nat):aw (a++b)=aw a++aw b:=by simp[aw]
theorem Cv(a:List Nat)(k:Nat):aw (a.drop k)=(aw a).drop k:=by simp[aw]
def Yc(w:World)(k N:Nat)(G:List (List Int))(v:Nat)(x y e:Value)(w':World):Prop :=
 e=.nilIface/\∃L C Q aL aC aQ bL bC bQ,EI G v L C Q/\x=.agg #[.int .i64 0,aL,aC,aQ]/\y=.agg #[.int .i64 0,bL,bC,bQ]/\∃f,Rows w.heap.size w' f /\
  f (1,0)=some (aD aL (jH k N L))/\f (1,1)=some (aD bL (jE k N L))/\f (2,0)=some (aD aC (jH k N C))/\f (2,1)=some (aD bC (jE k N C))/\f (3,0)=some (aD aQ (jH k N Q))/\f (3,1)=some (aD bQ (jE k N Q))
theorem Mb(r:Nat->Addr)(k N:Nat)(na:Option Addr)(nc:Nat)(G:List (List Int))(v:Nat)(w:World)(hg:ck r w)(h:bh w (.slice na G.length nc) G)(gQ:∀k,k<G.length->(G.getD k []).length<=17592186044416)(fK:cH G=none)(bK:bR G)(hN:G.length=N*N)(pC:1<=N)(CV:N<=81)(hk:1<=k)(hv:v<G.length)(wW:lh G.length (aq G) v):
 Calls Tryz.prog 43 #[.int .i64 k,.slice na G.length nc,.int .i64 v] w (vf (Yc w k N G v) w):=by
 have hn:G.length<=8200:=by rw[hN];have:=Nat.mul_le_mul CV CV;omega
 have Hu:G.length<=6561:=by rw[hN];exact Nat.mul_le_mul CV CV
 obtain⟨_,sG,_⟩:=lr fK;obtain⟨f0,R0,i02,o02⟩:=(Rows.void w.heap.size w).mj (0,2) (Nat.le_refl _) 51 (.int .i64 0) (.slice none 0 0) (.slice none 0 0) (.slice none 0 0);obtain⟨f1,R1,i03,Z1⟩:=R0.mj (0,3) (by simp) 51 (.int .i64 0) (.slice none 0 0) (.slice none 0 0) (.slice none 0 0);have b0:Below w.heap.size w ((w.alloc (.cells #[.int .i64 0,.slice none 0 0,.slice none 0 0,.slice none 0 0] 51)).alloc (.cells #[.int .i64 0,.slice none 0 0,.slice none 0 0,.slice none 0 0] 51)):=Below.step (ab w _) (ab _ _);replace i02:=(Z1 (0,2) (by decide)).trans i02;rw[World.size_alloc] at i03;clear o02 Z1 R0;have Hq:=λ(w':World) (jI:ck r w') (hT:bh w' (.slice na G.length nc) G)=>Jf r na nc G w' jI hT gQ fK bK hn;have ZY:=λ(w':World) (hT:bh w' (.slice na G.length nc) G)=>GD na nc G w' hT bK hn sG;have hp3:=λ(bv:Value) (on:Nat->Bool) (w':World) (hT:bh w' (.slice na G.length nc) G) (hb:aY w' bv (fY G.length on))=>Kh na nc G bv on v w' hT bK hn hb hv;have hp4:=λ(c:Nat) (w':World) (jI:ck r w') (hT:bh w' (.slice na G.length nc) G)=>QC r na nc G (c:Int) w' jI hT gQ;have hp5:=λ(a b:Nat) (w':World) (jI:ck r w') (hT:bh w' (.slice na G.length nc) G)=>Si r na nc G (a:Int) (b:Int) w' jI hT gQ;have lG:=h.len 3 w;replace⟨Hq,ZY,hp3,hp4,hp5⟩:=mV Hq ZY hp3 hp4 hp5;replace hg:=Hd (hg.below b0);replace h:=Hd (h.below b0);replace⟨gQ,fK,bK,wW,R1,i02,i03,lG⟩:=gp gQ fK bK wW R1 i02 i03 lG;replace⟨sG,hN⟩:=bD sG hN;go_enter Tryz.func43,Tryz.ntmps43;go_wp2_with fail;refine(Hq.out _ hg.out h.out).mono ?_;rintro e w2 ⟨ov,y,rfl,b1,rfl,on,tS,hOn⟩;obtain⟨oa,Pn,oc,rfl⟩:=tS.shape;have b2:=Below.step b0 b1;replace⟨tS,hOn⟩:=bD tS hOn;have lG2:=h.out.len 3 w2;go_wp2_with fail;go_loop [11] (λnv=>∃k:Nat,k<=N/\nv=.int .i64 k) (λnv=>N-(intOf nv).toNat);case atStart=>exact⟨1,pC,rfl⟩
 case round =>
  obtain⟨k1,dS,rfl⟩:=hrel;obtain⟨kk,Cz⟩:=Ex (k1*k1);have hkk2:(k1:Int)*(k1:Int)=(kk:Int):=by rw[<-Cz];simp
  have hkkM:kk<=G.length:=by rw[<-Cz,hN.out];exact Nat.mul_le_mul dS dS
  by_cases aT:kk<G.length
  .have hkN:k1<N:=Nat.lt_of_le_of_ne dS (λe=>by have:=hN.out;rw[<-e,Cz] at this;omega);replace Cz:=Hd Cz;go_wp2;go_round;case measure=>simp[intOf];omega
   case rel=>exact⟨k1+1,by omega,by go_num⟩
  .have hkN:k1=N:=by
    apply Classical.byContradiction;intro e;have h2:k1*k1<N*N:=Nat.mul_lt_mul_of_lt_of_lt (by omega) (by omega);rw[Cz,<-hN.out] at h2;omega
   subst hkN;replace Cz:=Hd Cz;clear dS;obtain⟨⟨ua,qU,ha2,ha3⟩,⟨ub,kZ,ij,vh⟩⟩:=wW.out;go_wp2_with fail;refine(ZY.out _ (h.out.below b1)).mono ?_;rintro e w3 ⟨tv,rfl,b3,hT,hTL⟩;have V1:=hT.1;obtain⟨ta,tc,rfl⟩:=hTL.shape;have Zd:aY w3 (.slice oa Pn oc) (fY (E2 G).length on):=by rw[V1];exact tS.out.at.below b3
   have vC:=Kh ta tc (E2 G) (.slice oa Pn oc) on v w3 hTL (uA hT) (by omega) Zd (by omega) ⟨ua,(hOn.out ua qU).2 ha2,zJ hT bK.out ha3 qU⟩ (kj (aq G)) (λx hx=>hOn.out x (by omega));rw[V1] at vC;rw[V1];replace⟨vC,V1⟩:=bD vC V1;clear hTL Zd;replace hT:=Hd hT;go_wp2_with fail;refine vC.out.mono ?_;rintro e w4 ⟨cv,rfl,b4,c,rfl,S0,UC,hcg,hcN⟩;clear vC;have Kr:=Below.step b1 (Below.step b3 b4);replace hcg:=pM hT.out bK.out hcg hv;have vC:=hp3.out (.slice oa Pn oc) on w4 (h.out.below Kr) (tS.out.at.below (Below.step b3 b4)) ⟨ub,(hOn.out ub kZ).2 ij,vh⟩ (kj (aq G)) hOn.out;replace⟨vC,hcN,hcg⟩:=dO vC hcN hcg;have UF:=(hOn.out c S0).1 UC;replace⟨UC,UF⟩:=bD UC UF;go_wp2_with fail;refine vC.out.mono ?_;rintro e w5 ⟨dv,rfl,b5,d,rfl,N5,hdon,YM,hdN⟩;clear vC kZ ij vh qU ha2 ha3;have b25:=Below.step Kr b5;have TF:=(hOn.out d N5).1 hdon;replace⟨hdon,TF,hdN,YM⟩:=gF hdon TF hdN YM;go_wp2_with fail;refine(hp4.out c w5 (hg.out.below b25) (h.out.below b25)).mono ?_;rintro e w6 ⟨lv,y,rfl,b6,hE,hW,-⟩;rw[te fK.out S0] at hE;obtain rfl:=hE.dG;clear hE;have xF:=hW (te fK.out S0);rw[Int.toNat_natCast] at xF;obtain⟨u1,EB,nT⟩:∃u,eA (aq (lC G c)) c G.length u/\aj w5.heap.size w6 lv (aw u.dropLast):=xF.elim id λq=>absurd (Ek bK.out S0 UF.out) q.1;clear hW xF;obtain⟨l1,l2,l3⟩:=Bw bK.out S0 EB;have Pr:=Below.step b25 b6;obtain⟨la,ln,lc,rfl⟩:=nT.at.shape;replace⟨EB,nT,l3⟩:=dO EB nT l3;go_wp2_with fail;refine(hp4.out d w6 (hg.out.below Pr) (h.out.below Pr)).mono ?_;rintro e w7 ⟨rv,y,rfl,b7,hE,hW,-⟩;rw[te fK.out N5] at hE;obtain rfl:=hE.dG;clear hE;have xF:=hW (te fK.out N5);rw[Int.toNat_natCast] at xF;obtain⟨u2,yx,jK⟩:∃u,eA (aq (lC G d)) d G.length u/\aj w6.heap.size w7 rv (aw u.dropLast):=xF.elim id λq=>absurd (Ek bK.out N5 TF.out) q.1;clear hW xF;obtain⟨m1,m2,m3⟩:=Bw bK.out N5 yx;have Sd:=Below.step Pr b7;have lr2:(aw u2.dropLast).length=u2.length-1:=by rw[aA,List.length_dropLast]
   obtain⟨rg,rc,hrv,_⟩:∃g cap,rv=.slice (some ⟨g,0,none⟩) (aw u2.dropLast).length cap/\w6.heap.size<=g:=Row.own.shape (r:=aD rv (aw u2.dropLast)) jK (by show 0<(aw u2.dropLast).length;omega);subst hrv;replace⟨yx,jK,m3,lr2⟩:=gF yx jK m3 lr2;go_wp2_with fail;refine(hp5.out c v w7 (hg.out.below Sd) (h.out.below Sd)).mono ?_;rintro e w8 ⟨iv,y,rfl,b8,hE,hW,-⟩;rw[wY fK.out S0 hv] at hE;obtain rfl:=hE.dG;clear hE;have xF:=hW (wY fK.out S0 hv);rw[Int.toNat_natCast,Int.toNat_natCast] at xF;obtain⟨I,hI,wR⟩:∃u,eA (aq G) c v u/\aj w7.heap.size w8 iv (aw u):=xF.elim id λq=>absurd hcg.out q.1;clear hW xF;obtain⟨p1,p2⟩:=tN bK.out hI S0;have b28:=Below.step Sd b8;obtain⟨ia,in',ic,rfl⟩:=wR.at.shape;replace⟨hI,wR,p2⟩:=dO hI wR p2;go_wp2_with fail;refine(hp5.out v d w8 (hg.out.below b28) (h.out.below b28)).mono ?_;rintro e w9 ⟨ov,y,rfl,b9,hE,hW,-⟩;rw[wY fK.out hv N5] at hE;obtain rfl:=hE.dG;clear hE;have xF:=hW (wY fK.out hv N5);rw[Int.toNat_natCast,Int.toNat_natCast] at xF;obtain⟨O,hO,xE⟩:∃u,eA (aq G) v d u/\aj w8.heap.size w9 ov (aw u):=xF.elim id λq=>absurd YM.out q.1;clear hW xF;obtain⟨q1,q2⟩:=tN bK.out hO hv;have q3:=hO.way.pos;have b29:=Below.step b28 b9;replace⟨hO,xE,q2⟩:=dO hO xE q2;have ZT:w.heap.size<=w9.heap.size:=(Below.step b0 b29).size;have ho2m:aj w.heap.size w9 (.slice (some ⟨rg,0,none⟩) (aw u2.dropLast).length rc) (aw u2.dropLast):=((jK.out.below b8).below b9).mono (Below.step b0 Pr).size;have ho3m:aj w.heap.size w9 (.slice ia in' ic) (aw I):=(wR.out.below b9).mono (Below.step b0 Sd).size;have ho1m:ae w9 (.slice la ln lc) (aw u1.dropLast):=((nT.out.at.below b7).below b8).below b9;have ho4m:=xE.out.at;have dT:=i02.out;have ef:=i03.out;obtain⟨fc,Rc,n42,oc'⟩:=(R1.out.below Pr).y8 (4,2) (r':=aD (.slice (some ⟨rg,0,none⟩) (aw u2.dropLast).length rc) (aw u2.dropLast)) b7 (jK.out.mono (Below.step b0 Pr).size) (λq hq=>(jK.out.lt q hq).1);replace dT:=(oc' (0,2) (by decide)).trans dT;replace ef:=(oc' (0,3) (by decide)).trans ef;obtain⟨fd,Rd,n40,od⟩:=Rc.y8 (4,0) (r':=aD (.slice ia in' ic) (aw I)) b8 (wR.out.mono (Below.step b0 Sd).size) (λq hq=>(wR.out.lt q hq).1);replace dT:=(od (0,2) (by decide)).trans dT;replace ef:=(od (0,3) (by decide)).trans ef;replace n42:=(od (4,2) (by decide)).trans n42;obtain⟨fe,Re,n41,oe⟩:=Rd.y8 (4,1) (r':=aD ov (aw O)) b9 (xE.out.mono (Below.step b0 b28).size) (λq hq=>(xE.out.lt q hq).1);replace dT:=(oe (0,2) (by decide)).trans dT;replace ef:=(oe (0,3) (by decide)).trans ef;replace n42:=(oe (4,2) (by decide)).trans n42;replace n40:=(oe (4,0) (by decide)).trans n40;clear oc' od oe Rc Rd;obtain⟨fA,RA,jN,oA⟩:=Re.mj (0,0) ZT 51 (.int .i64 0) (.slice none 0 0) (.slice none 0 0) (.slice none 0 0);replace dT:=(oA (0,2) (by decide)).trans dT;replace ef:=(oA (0,3) (by decide)).trans ef;replace n42:=(oA (4,2) (by decide)).trans n42;replace n40:=(oA (4,0) (by decide)).trans n40;replace n41:=(oA (4,1) (by decide)).trans n41;obtain⟨fB,RB,jY,oB⟩:=RA.mj (0,1) (by simp;omega) 51 (.int .i64 0) (.slice none 0 0) (.slice none 0 0) (.slice none 0 0);replace dT:=(oB (0,2) (by decide)).trans dT;replace ef:=(oB (0,3) (by decide)).trans ef;replace n42:=(oB (4,2) (by decide)).trans n42;replace n40:=(oB (4,0) (by decide)).trans n40;replace n41:=(oB (4,1) (by decide)).trans n41;replace jN:=(oB (0,0) (by decide)).trans jN;rw[World.size_alloc] at jY;clear oA oB RA;have bAB:Below w9.heap.size w9 ((w9.alloc (.cells #[.int .i64 0,.slice none 0 0,.slice none 0 0,.slice none 0 0] 51)).alloc (.cells #[.int .i64 0,.slice none 0 0,.slice none 0 0,.slice none 0 0] 51)):=Below.step (ab w9 _) (ab _ _);obtain⟨WB,K6⟩:=Ex ((w9.alloc (.cells #[.int .i64 0,.slice none 0 0,.slice none 0 0,.slice none 0 0] 51)).alloc (.cells #[.int .i64 0,.slice none 0 0,.slice none 0 0,.slice none 0 0] 51));rw[K6] at RB bAB;have e00:∀(l:List Nat) (m:Nat),(∀z∈l,z<m)->m<=6561->∀z∈l,z<=1000000:=λl m h1 h2 z hz=>by have:=h1 z hz;omega
   have Hv:=th k k1 (.slice la ln lc) u1.dropLast WB (ho1m.below bAB) hk pC (e00 _ _ l3.out Hu) (by rw[List.length_dropLast];omega);have bB0:Below w.heap.size w WB:=Below.step b0 (Below.step b29 bAB);have Df:w.heap.size<=WB.heap.size:=bB0.size;clear ho1m ho2m ho3m ho4m;replace⟨Hv,RB,K6,e00,dT,ef,n42,n40⟩:=gp Hv RB K6 e00 dT ef n42 n40;replace⟨n41,jN,jY⟩:=dO n41 jN jY;go_upto_region 13 with fail;rw[K6.out];go_wp2_with fail;refine Hv.out.mono ?_;rintro e w10 ⟨x1,y1,rfl,HF,oa1,ob1,hd1⟩;replace dT:=dT.out;replace ef:=ef.out;replace n42:=n42.out;replace n40:=n40.out;replace n41:=n41.out;replace jN:=jN.out;replace jY:=jY.out;obtain⟨f10,DO,n10,n11,MI⟩:=RB.out.Vs (1,0) (1,1) (by decide) (r':=aD x1 (jH k k1 u1.dropLast)) (s':=aD y1 (jE k k1 u1.dropLast)) HF (oa1.mono Df) (λq hq=>(oa1.lt q hq).1) (ob1.mono Df) (λq hq=>(ob1.lt q hq).1) hd1;replace dT:=(MI (0,2) (by decide) (by decide)).trans dT;replace ef:=(MI (0,3) (by decide) (by decide)).trans ef;replace n42:=(MI (4,2) (by decide) (by decide)).trans n42;replace n40:=(MI (4,0) (by decide) (by decide)).trans n40;replace n41:=(MI (4,1) (by decide) (by decide)).trans n41;replace jN:=(MI (0,0) (by decide) (by decide)).trans jN;replace jY:=(MI (0,1) (by decide) (by decide)).trans jY;obtain⟨a0,a1,a2,a3⟩:=DO.dE jN;obtain⟨d0,d1,d2,d3⟩:=DO.dE jY;have fa:=DO.ib jN 1;have fb:=DO.ib jY 1;have Zn:=(DO.wk jN).1;have VM:=(DO.wk jY).1;obtain⟨fx10,Rx10,Zc,ox⟩:=DO.B9 jN 1 x1;replace dT:=(ox (0,2) (by decide)).trans dT;replace ef:=(ox (0,3) (by decide)).trans ef;replace n42:=(ox (4,2) (by decide)).trans n42;replace n40:=(ox (4,0) (by decide)).trans n40;replace n41:=(ox (4,1) (by decide)).trans n41;replace jY:=(ox (0,1) (by decide)).trans jY;replace n10:=(ox (1,0) (by decide)).trans n10;replace n11:=(ox (1,1) (by decide)).trans n11;clear jN;have jN:=Zc;obtain⟨fy10,Lu,ZR,oy⟩:=Rx10.B9 jY 1 y1;replace dT:=(oy (0,2) (by decide)).trans dT;replace ef:=(oy (0,3) (by decide)).trans ef;replace n42:=(oy (4,2) (by decide)).trans n42;replace n40:=(oy (4,0) (by decide)).trans n40;replace n41:=(oy (4,1) (by decide)).trans n41;replace jN:=(oy (0,0) (by decide)).trans jN;replace n10:=(oy (1,0) (by decide)).trans n10;replace n11:=(oy (1,1) (by decide)).trans n11;clear jY;have jY:=ZR;simp only[List.set_cons_zero,List.set_cons_succ] at jN jY;have by10:Below w.heap.size w ((w10.setCell ⟨w9.heap.size,1,none⟩ x1).setCell ⟨w9.heap.size+1,1,none⟩ y1):=(((bB0.trans (HF.mono Df)).setCell (show w.heap.size<=(⟨w9.heap.size,1,none⟩:Addr).block from Zn) _)).setCell (show w.heap.size<=(⟨w9.heap.size+1,1,none⟩:Addr).block from VM) _;obtain⟨XE,YZ,Y8,YK⟩:=oa1.at.shape;obtain⟨YS,Ws,Xs,hy1⟩:=ob1.at.shape;subst YK;subst hy1;clear oa1 ob1 hd1 DO Rx10 MI ox oy Zc ZR Zn VM;obtain⟨V10,Yr⟩:=Ex ((w10.setCell ⟨w9.heap.size,1,none⟩ (.slice XE YZ Y8)).setCell ⟨w9.heap.size+1,1,none⟩ (.slice YS Ws Xs));rw[Yr] at Lu by10;replace⟨Lu,Yr,dT,ef,n42,n40,n41,jN⟩:=gp Lu Yr dT ef n42 n40 n41 jN;replace⟨jY,n10,n11⟩:=dO jY n10 n11;go_upto_region 14 with fail;rw[Yr.out];clear a0 a1 a2 a3 d0 d1 d2 d3 fa fb;have WM:w.heap.size<=V10.heap.size:=by10.size;clear Hv;obtain⟨tl,ko,hti⟩:=(Lu.out.aR n41.out).at.post 1 (by rw[aA];omega);rw[<-Cv] at hti;have htl1:∀w',(Instr.slice 22 ov (some (.int .i64 1)) none none).run Tryz.prog w'=.ok tl w':=ko;clear ko;have hio:=Lu.out.aR n40.out;obtain⟨ova,ovb,ovc,Hw⟩:=(Lu.out.aR n41.out).at.shape;subst Hw;obtain⟨tla,tlb,tlc,htlv⟩:=hti.shape;subst htlv;replace⟨hti,hio⟩:=bD hti hio;go_wp2_with (at_builtin;refine BM rfl _ _ rfl w.heap.size (.slice ia in' ic) (.slice tla tlb tlc) (aw I) (aw (O.drop 1)) hio.out hti.out rfl rfl (by rw[aA,aA,List.length_drop];omega) WM ?_);intro QK w11 hco Du hcg' hcal;replace dT:=dT.out;replace ef:=ef.out;replace n42:=n42.out;replace n40:=n40.out;replace n41:=n41.out;replace jN:=jN.out;replace jY:=jY.out;replace n10:=n10.out;replace n11:=n11.out;have Zf:(aD QK (aw (I++O.drop 1))).v.ownBlock=(aD (.slice ia in' ic) (aw I)).v.ownBlock\/∃k,(aD QK (aw (I++O.drop 1))).v.ownBlock=some k/\V10.heap.size<=k:=hcal;replace hco:aj w.heap.size w11 QK (aw (I++O.drop 1)):=by rw[D8,List.drop_one];exact hco
   have Pc:=Lu.out.grown (r':=aD QK (aw (I++O.drop 1))) n40 hcg' hco Zf;have Kb:∀j,j≠(4,0)->ch fy10 (4,0) (some (aD QK (aw (I++O.drop 1)))) j=fy10 j:=λj e=>ad _ _ e;clear n40;replace dT:=(Kb (0,2) (by decide)).trans dT;replace ef:=(Kb (0,3) (by decide)).trans ef;replace n42:=(Kb (4,2) (by decide)).trans n42;replace n41:=(Kb (4,1) (by decide)).trans n41;replace jN:=(Kb (0,0) (by decide)).trans jN;replace jY:=(Kb (0,1) (by decide)).trans jY;replace n10:=(Kb (1,0) (by decide)).trans n10;replace n11:=(Kb (1,1) (by decide)).trans n11;generalize ch fy10 (4,0) (some (aD QK (aw (I++O.drop 1))))=f11 at *;have Xj:Below w.heap.size w w11:=by10.trans Du;have Lc:w.heap.size<=w11.heap.size:=Xj.size;have aaj:∀z∈I++O.drop 1,z<G.length:=λz hz=>by
    rcases List.mem_append.1 hz with hz | hz;.exact p2.out z hz
    .exact q2.out z (List.mem_of_mem_drop hz)
   have D2:=th k k1 QK (I++O.drop 1) w11 hco.at hk pC (e00.out _ _ aaj Hu) (by rw[List.length_append,List.length_drop];omega);obtain⟨cva,cvb,cvc,p9⟩:=hco.at.shape;subst p9;clear hcal Zf hcg' hco Kb aaj htl1;replace⟨D2,Pc,dT,ef,n42,n41,jN,jY⟩:=gp D2 Pc dT ef n42 n41 jN jY;replace⟨n10,n11⟩:=bD n10 n11;go_wp2_with fail;refine D2.out.mono ?_;rintro e w12 ⟨x2,y2,rfl,mw,oa2,ob2,hd2⟩;have bw12:=Xj;replace dT:=dT.out;replace ef:=ef.out;replace n42:=n42.out;replace n41:=n41.out;replace jN:=jN.out;replace jY:=jY.out;replace n10:=n10.out;replace n11:=n11.out;obtain⟨f12,Fx,n20,n21,Le⟩:=Pc.out.Vs (2,0) (2,1) (by decide) (r':=aD x2 (jH k k1 (I++O.drop 1))) (s':=aD y2 (jE k k1 (I++O.drop 1))) mw (oa2.mono Lc) (λq hq=>(oa2.lt q hq).1) (ob2.mono Lc) (λq hq=>(ob2.lt q hq).1) hd2;replace dT:=(Le (0,2) (by decide) (by decide)).trans dT;replace ef:=(Le (0,3) (by decide) (by decide)).trans ef;replace n42:=(Le (4,2) (by decide) (by decide)).trans n42;replace n41:=(Le (4,1) (by decide) (by decide)).trans n41;replace jN:=(Le (0,0) (by decide) (by decide)).trans jN;replace jY:=(Le (0,1) (by decide) (by decide)).trans jY;replace n10:=(Le (1,0) (by decide) (by decide)).trans n10;replace n11:=(Le (1,1) (by decide) (by decide)).trans n11;obtain⟨a0,a1,a2,a3⟩:=Fx.dE jN;obtain⟨d0,d1,d2,d3⟩:=Fx.dE jY;have fa:=Fx.ib jN 2;have fb:=Fx.ib jY 2;have Zn:=(Fx.wk jN).1;have VM:=(Fx.wk jY).1;obtain⟨fx12,Rx12,Zc,ox⟩:=Fx.B9 jN 2 x2;replace dT:=(ox (0,2) (by decide)).trans dT;replace ef:=(ox (0,3) (by decide)).trans ef;replace n42:=(ox (4,2) (by decide)).trans n42;replace n41:=(ox (4,1) (by decide)).trans n41;replace jY:=(ox (0,1) (by decide)).trans jY;replace n10:=(ox (1,0) (by decide)).trans n10;replace n11:=(ox (1,1) (by decide)).trans n11;replace n20:=(ox (2,0) (by decide)).trans n20;replace n21:=(ox (2,1) (by decide)).trans n21;clear jN;have jN:=Zc;obtain⟨fy12,Vp,ZR,oy⟩:=Rx12.B9 jY 2 y2;replace dT:=(oy (0,2) (by decide)).trans dT;replace ef:=(oy (0,3) (by decide)).trans ef;replace n42:=(oy (4,2) (by decide)).trans n42;replace n41:=(oy (4,1) (by decide)).trans n41;replace jN:=(oy (0,0) (by decide)).trans jN;replace n10:=(oy (1,0) (by decide)).trans n10;replace n11:=(oy (1,1) (by decide)).trans n11;replace n20:=(oy (2,0) (by decide)).trans n20;replace n21:=(oy (2,1) (by decide)).trans n21;clear jY;have jY:=ZR;simp only[List.set_cons_zero,List.set_cons_succ] at jN jY;have by12:Below w.heap.size w ((w12.setCell ⟨w9.heap.size,2,none⟩ x2).setCell ⟨w9.heap.size+1,2,none⟩ y2):=(((bw12.trans (mw.mono Lc)).setCell (show w.heap.size<=(⟨w9.heap.size,2,none⟩:Addr).block from Zn) _)).setCell (show w.heap.size<=(⟨w9.heap.size+1,2,none⟩:Addr).block from VM) _;obtain⟨Wy,WI,YH,Fk⟩:=oa2.at.shape;obtain⟨YP,Yi,Y7,Ch⟩:=ob2.at.shape;subst Fk;subst Ch;clear oa2 ob2 hd2 Fx Rx12 Le ox oy Zc ZR Zn VM;obtain⟨V12,YF⟩:=Ex ((w12.setCell ⟨w9.heap.size,2,none⟩ (.slice Wy WI YH)).setCell ⟨w9.heap.size+1,2,none⟩ (.slice YP Yi Y7));rw[YF] at Vp by12;replace⟨Vp,YF,dT,ef,n42,n41,jN,jY⟩:=gp Vp YF dT ef n42 n41 jN jY;replace⟨n10,n11,n20,n21⟩:=gF n10 n11 n20 n21;go_upto_region 15 with fail;rw[YF.out];clear a0 a1 a2 a3 d0 d1 d2 d3 fa fb;have Y0:w.heap.size<=V12.heap.size:=by12.size;clear D2;have hri:=Vp.out.aR n42.out;have bl:=ab V12 (.cells #[.int .i64 (d:Int)] 3);have ur:(V12.alloc (.cells #[.int .i64 (d:Int)] 3)).cell? ⟨V12.heap.size,0,none⟩=some (.int .i64 d):=by simp[go_sem]
   obtain⟨qv,w13,hqr,hqi,hqb,hqg⟩:=HO w.heap.size 22 (V12.alloc (.cells #[.int .i64 (d:Int)] 3)) rg rc V12.heap.size (aw u2.dropLast) (d:Int) (hri.below bl) (by rw[lr2.out];omega) ur (by simp;omega) (by rw[lr2.out];omega);have ko:=DG rg (aw u2.dropLast).length rc (by rw[lr2.out];omega);generalize sliced (some ⟨rg,0,none⟩) 1 (aw u2.dropLast).length rc 1=tq at *;rw[<-Cv,show [(d:Int)]=aw [d] from rfl,<-D8] at hqi;have bw13:Below w.heap.size w w13:=(by12.trans (bl.mono Y0)).trans hqb;have DA:w.heap.size<=w13.heap.size:=bw13.size;replace dT:=dT.out;replace ef:=ef.out;replace n42:=n42.out;replace n41:=n41.out;replace jN:=jN.out;replace jY:=jY.out;replace n10:=n10.out;replace n11:=n11.out;replace n20:=n20.out;replace n21:=n21.out;obtain⟨f13,Pk,HB⟩:=(Vp.out.below bl).lose n42 hqg;clear n42 hqg;replace dT:=(HB (0,2) (by decide)).trans dT;replace ef:=(HB (0,3) (by decide)).trans ef;replace n41:=(HB (4,1) (by decide)).trans n41;replace jN:=(HB (0,0) (by decide)).trans jN;replace jY:=(HB (0,1) (by decide)).trans jY;replace n10:=(HB (1,0) (by decide)).trans n10;replace n11:=(HB (1,1) (by decide)).trans n11;replace n20:=(HB (2,0) (by decide)).trans n20;replace n21:=(HB (2,1) (by decide)).trans n21;clear HB;have Zl:∀z∈u2.dropLast.drop 1++[d],z<G.length:=λz hz=>by
    rcases List.mem_append.1 hz with hz | hz;.exact m3.out z (List.mem_of_mem_drop hz)
    .rw[List.mem_singleton] at hz;subst hz;exact N5
   have SW:=th k k1 qv (u2.dropLast.drop 1++[d]) w13 hqi hk pC (e00.out _ _ Zl Hu) (by simp;omega);obtain⟨qva,qvb,qvc,hqv⟩:=hqi.shape;subst hqv;clear hqi Zl hri ur;replace⟨SW,Pk,hqr,ko,dT,ef,n41,jN⟩:=gp SW Pk hqr ko dT ef n41 jN;replace⟨jY,n10,n11,n20,n21⟩:=mV jY n10 n11 n20 n21;have htl1:∀w',(Instr.slice 22 (.slice (some ⟨rg,0,none⟩) (aw u2.dropLast).length rc) (some (.int .i64 1)) none none).run Tryz.prog w'=.ok tq w':=ko.out;go_wp2_with (at_builtin;refine IH rfl _ _ _ rfl _ _ rfl rfl hqr.out ?_);go_wp2_with fail;refine SW.out.mono ?_;rintro e w14 ⟨x3,y3,rfl,um,oa3,ob3,hd3⟩;have bw14:=bw13;replace dT:=dT.out;replace ef:=ef.out;replace n41:=n41.out;replace jN:=jN.out;replace jY:=jY.out;replace n10:=n10.out;replace n11:=n11.out;replace n20:=n20.out;replace n21:=n21.out;obtain⟨f14,G0,n30,n31,VW⟩:=Pk.out.Vs (3,0) (3,1) (by decide) (r':=aD x3 (jH k k1 (u2.dropLast.drop 1++[d]))) (s':=aD y3 (jE k k1 (u2.dropLast.drop 1++[d]))) um (oa3.mono DA) (λq hq=>(oa3.lt q hq).1) (ob3.mono DA) (λq hq=>(ob3.lt q hq).1) hd3;replace dT:=(VW (0,2) (by decide) (by decide)).trans dT;replace ef:=(VW (0,3) (by decide) (by decide)).trans ef;replace n41:=(VW (4,1) (by decide) (by decide)).trans n41;replace jN:=(VW (0,0) (by decide) (by decide)).trans jN;replace jY:=(VW (0,1) (by decide) (by decide)).trans jY;replace n10:=(VW (1,0) (by decide) (by decide)).trans n10;replace n11:=(VW (1,1) (by decide) (by decide)).trans n11;replace n20:=(VW (2,0) (by decide) (by decide)).trans n20;replace n21:=(VW (2,1) (by decide) (by decide)).trans n21;obtain⟨a0,a1,a2,a3⟩:=G0.dE jN;obtain⟨d0,d1,d2,d3⟩:=G0.dE jY;have fa:=G0.ib jN 3;have fb:=G0.ib jY 3;have Zn:=(G0.wk jN).1;have VM:=(G0.wk jY).1;obtain⟨fx14,Rx14,Zc,ox⟩:=G0.B9 jN 3 x3;replace dT:=(ox (0,2) (by decide)).trans dT;replace ef:=(ox (0,3) (by decide)).trans ef;replace n41:=(ox (4,1) (by decide)).trans n41;replace jY:=(ox (0,1) (by decide)).trans jY;replace n10:=(ox (1,0) (by decide)).trans n10;replace n11:=(ox (1,1) (by decide)).trans n11;replace n20:=(ox (2,0) (by decide)).trans n20;replace n21:=(ox (2,1) (by decide)).trans n21;replace n30:=(ox (3,0) (by decide)).trans n30;replace n31:=(ox (3,1) (by decide)).trans n31;clear jN;have jN:=Zc;obtain⟨fy14,UA,ZR,oy⟩:=Rx14.B9 jY 3 y3;replace dT:=(oy (0,2) (by decide)).trans dT;replace ef:=(oy (0,3) (by decide)).trans ef;replace n41:=(oy (4,1) (by decide)).trans n41;replace jN:=(oy (0,0) (by decide)).trans jN;replace n10:=(oy (1,0) (by decide)).trans n10;replace n11:=(oy (1,1) (by decide)).trans n11;replace n20:=(oy (2,0) (by decide)).trans n20;replace n21:=(oy (2,1) (by decide)).trans n21;replace n30:=(oy (3,0) (by decide)).trans n30;replace n31:=(oy (3,1) (by decide)).trans n31;clear jY;have jY:=ZR;simp only[List.set_cons_zero,List.set_cons_succ] at jN jY;have WL:Below w.heap.size w ((w14.setCell ⟨w9.heap.size,3,none⟩ x3).setCell ⟨w9.heap.size+1,3,none⟩ y3):=(((bw14.trans (um.mono DA)).setCell (show w.heap.size<=(⟨w9.heap.size,3,none⟩:Addr).block from Zn) _)).setCell (show w.heap.size<=(⟨w9.heap.size+1,3,none⟩:Addr).block from VM) _;obtain⟨WX,YI,Yj,hx3⟩:=oa3.at.shape;obtain⟨Ww,WH,Xw,hy3⟩:=ob3.at.shape;subst hx3;subst hy3;clear oa3 ob3 hd3 G0 Rx14 VW ox oy Zc ZR Zn VM;obtain⟨V14,Yw⟩:=Ex ((w14.setCell ⟨w9.heap.size,3,none⟩ (.slice WX YI Yj)).setCell ⟨w9.heap.size+1,3,none⟩ (.slice Ww WH Xw));rw[Yw] at UA WL;replace⟨UA,Yw,dT,ef,n41,jN,jY,n10⟩:=gp UA Yw dT ef n41 jN jY n10;replace⟨n11,n20,n21,n30,n31⟩:=mV n11 n20 n21 n30 n31;go_upto_region 16 with fail;rw[Yw.out];clear a0 a1 a2 a3 d0 d1 d2 d3 fa fb;have Yk:w.heap.size<=V14.heap.size:=WL.size;clear SW;replace dT:=dT.out;replace ef:=ef.out;replace n41:=n41.out;replace jN:=jN.out;replace jY:=jY.out;replace n10:=n10.out;replace n11:=n11.out;replace n20:=n20.out;replace n21:=n21.out;replace n30:=n30.out;replace n31:=n31.out;obtain⟨V,V5⟩:=Ex V14.drew;have RV:=UA.out.drew;have bV:=WL.drew;rw[V5] at RV bV;clear UA WL;replace V5:=Hd V5;have hS:V.cell? ⟨w9.heap.size,0,none⟩=some (.int .i64 0)/\V.cell? ⟨w9.heap.size,1,none⟩=some (.slice XE YZ Y8)/\V.cell? ⟨w9.heap.size,2,none⟩=some (.slice Wy WI YH)/\V.cell? ⟨w9.heap.size,3,none⟩=some (.slice WX YI Yj)/\V.cell? ⟨w9.heap.size+1,0,none⟩=some (.int .i64 0)/\V.cell? ⟨w9.heap.size+1,1,none⟩=some (.slice YS Ws Xs)/\V.cell? ⟨w9.heap.size+1,2,none⟩=some (.slice YP Yi Y7)/\V.cell? ⟨w9.heap.size+1,3,none⟩=some (.slice Ww WH Xw):=by
    obtain⟨a0,a1,a2,a3⟩:=RV.dE jN;obtain⟨d0,d1,d2,d3⟩:=RV.dE jY;exact⟨a0,a1,a2,a3,d0,d1,d2,d3⟩
   obtain⟨g0,g1,g2,g3⟩:=RV.dE dT;have fg0:=RV.ib dT 0;have fg1:=RV.ib dT 1;have fg2:=RV.ib dT 2;have fg3:=RV.ib dT 3;have Wo:=(RV.wk dT).1;obtain⟨f15,wF,Vv,CU⟩:=RV.pV dT (.int .i64 0) (.slice XE YZ Y8) (.slice Wy WI YH) (.slice WX YI Yj);replace ef:=(CU (0,3) (by decide)).trans ef;replace n41:=(CU (4,1) (by decide)).trans n41;replace jN:=(CU (0,0) (by decide)).trans jN;replace jY:=(CU (0,1) (by decide)).trans jY;replace n10:=(CU (1,0) (by decide)).trans n10;replace n11:=(CU (1,1) (by decide)).trans n11;replace n20:=(CU (2,0) (by decide)).trans n20;replace n21:=(CU (2,1) (by decide)).trans n21;replace n30:=(CU (3,0) (by decide)).trans n30;replace n31:=(CU (3,1) (by decide)).trans n31;have MH:=Below.pV (g:=w.heap.size) bV Wo (.int .i64 0) (.slice XE YZ Y8) (.slice Wy WI YH) (.slice WX YI Yj);obtain⟨E9,Gd⟩:=Ex ((((V.setCell ⟨w.heap.size,0,none⟩ (.int .i64 0)).setCell ⟨w.heap.size,1,none⟩ (.slice XE YZ Y8)).setCell ⟨w.heap.size,2,none⟩ (.slice Wy WI YH)).setCell ⟨w.heap.size,3,none⟩ (.slice WX YI Yj));rw[Gd] at wF MH;have hS15:E9.cell? ⟨w9.heap.size,0,none⟩=some (.int .i64 0)/\E9.cell? ⟨w9.heap.size,1,none⟩=some (.slice XE YZ Y8)/\E9.cell? ⟨w9.heap.size,2,none⟩=some (.slice Wy WI YH)/\E9.cell? ⟨w9.heap.size,3,none⟩=some (.slice WX YI Yj)/\E9.cell? ⟨w9.heap.size+1,0,none⟩=some (.int .i64 0)/\E9.cell? ⟨w9.heap.size+1,1,none⟩=some (.slice YS Ws Xs)/\E9.cell? ⟨w9.heap.size+1,2,none⟩=some (.slice YP Yi Y7)/\E9.cell? ⟨w9.heap.size+1,3,none⟩=some (.slice Ww WH Xw):=by
    obtain⟨a0,a1,a2,a3⟩:=wF.dE jN;obtain⟨d0,d1,d2,d3⟩:=wF.dE jY;exact⟨a0,a1,a2,a3,d0,d1,d2,d3⟩
   replace Gd:=Hd Gd;clear dT CU RV bV Wo;have dT:=Vv;clear Vv;refine ar (λw'=>w'.cell? ⟨w9.heap.size,0,none⟩=some (.int .i64 0)/\w'.cell? ⟨w9.heap.size,1,none⟩=some (.slice XE YZ Y8)/\w'.cell? ⟨w9.heap.size,2,none⟩=some (.slice Wy WI YH)/\w'.cell? ⟨w9.heap.size,3,none⟩=some (.slice WX YI Yj)/\w'.cell? ⟨w9.heap.size+1,0,none⟩=some (.int .i64 0)/\w'.cell? ⟨w9.heap.size+1,1,none⟩=some (.slice YS Ws Xs)/\w'.cell? ⟨w9.heap.size+1,2,none⟩=some (.slice YP Yi Y7)/\w'.cell? ⟨w9.heap.size+1,3,none⟩=some (.slice Ww WH Xw)) 4 [(0,true),(1,true),(2,false),(3,false)] (by kernel_rfl) (by kernel_rfl) ?_;rw[V5.out];refine ay 111 hS ?_;refine ay 112 hS ?_;refine fZ rfl (λKK hK=>?_);go_simp;rw[Gd.out];refine hK _ _ hS15 ?_;clear hK KK hS g0 g1 g2 g3 fg0 fg1 fg2 fg3;obtain⟨h0,h1,h2,h3⟩:=wF.dE ef;have fh0:=wF.ib ef 0;have fh1:=wF.ib ef 1;have fh2:=wF.ib ef 2;have fh3:=wF.ib ef 3;have Wg:=(wF.wk ef).1;obtain⟨f16,Dd,m03,CX⟩:=wF.pV ef (.int .i64 0) (.slice YS Ws Xs) (.slice YP Yi Y7) (.slice Ww WH Xw);replace dT:=(CX (0,2) (by decide)).trans dT;replace n41:=(CX (4,1) (by decide)).trans n41;replace jN:=(CX (0,0) (by decide)).trans jN;replace jY:=(CX (0,1) (by decide)).trans jY;replace n10:=(CX (1,0) (by decide)).trans n10;replace n11:=(CX (1,1) (by decide)).trans n11;replace n20:=(CX (2,0) (by decide)).trans n20;replace n21:=(CX (2,1) (by decide)).trans n21;replace n30:=(CX (3,0) (by decide)).trans n30;replace n31:=(CX (3,1) (by decide)).trans n31;have Ma:=Below.pV (g:=w.heap.size+1) MH Wg (.int .i64 0) (.slice YS Ws Xs) (.slice YP Yi Y7) (.slice Ww WH Xw);obtain⟨I6,GG⟩:=Ex ((((E9.setCell ⟨w.heap.size+1,0,none⟩ (.int .i64 0)).setCell ⟨w.heap.size+1,1,none⟩ (.slice YS Ws Xs)).setCell ⟨w.heap.size+1,2,none⟩ (.slice YP Yi Y7)).setCell ⟨w.heap.size+1,3,none⟩ (.slice Ww WH Xw));rw[GG] at Dd Ma;have hS16:I6.cell? ⟨w9.heap.size,0,none⟩=some (.int .i64 0)/\I6.cell? ⟨w9.heap.size,1,none⟩=some (.slice XE YZ Y8)/\I6.cell? ⟨w9.heap.size,2,none⟩=some (.slice Wy WI YH)/\I6.cell? ⟨w9.heap.size,3,none⟩=some (.slice WX YI Yj)/\I6.cell? ⟨w9.heap.size+1,0,none⟩=some (.int .i64 0)/\I6.cell? ⟨w9.heap.size+1,1,none⟩=some (.slice YS Ws Xs)/\I6.cell? ⟨w9.heap.size+1,2,none⟩=some (.slice YP Yi Y7)/\I6.cell? ⟨w9.heap.size+1,3,none⟩=some (.slice Ww WH Xw):=by
    obtain⟨a0,a1,a2,a3⟩:=Dd.dE jN;obtain⟨d0,d1,d2,d3⟩:=Dd.dE jY;exact⟨a0,a1,a2,a3,d0,d1,d2,d3⟩
   replace GG:=Hd GG;clear ef CX wF MH Wg;have ef:=m03;clear m03;refine fZ rfl (λKK hK=>?_);go_simp;rw[GG.out];refine hK _ _ hS16 ?_;clear hK KK hS15 h0 h1 h2 h3 fh0 fh1 fh2 fh3;refine dA ?_;simp only[List.drop_succ_cons,List.drop_zero];clear hS16;obtain⟨g0,g1,g2,g3⟩:=Dd.dE dT;obtain⟨h0,h1,h2,h3⟩:=Dd.dE ef;replace⟨Dd,jN,jY,dT,ef,n41,n10,n11⟩:=gp Dd jN jY dT ef n41 n10 n11;replace⟨n20,n21,n30,n31⟩:=gF n20 n21 n30 n31;go_wp2;refine NoPanic.normal ?_;go_wp2;refine bodyPost_ret (v:=.tuple #[.agg #[.int .i64 0,.slice XE YZ Y8,.slice Wy WI YH,.slice WX YI Yj],.agg #[.int .i64 0,.slice YS Ws Xs,.slice YP Yi Y7,.slice Ww WH Xw],.nilIface]) (by simp[results,Tryz.results43,go_sem,g0,g1,g2,g3,h0,h1,h2,h3]) rfl ?_;exact⟨_,_,_,rfl,Ma,rfl,u1.dropLast,I++O.drop 1,u2.dropLast.drop 1++[d],_,_,_,_,_,_,⟨c,d,u1,u2,I,O,hcN.out,hdN.out,S0,N5,EB.out,yx.out,hI.out,hO.out,rfl,rfl,rfl⟩,rfl,rfl,f16,Dd.out,n10.out,n11.out,n20.out,n21.out,n30.out,n31.out⟩
open Go.RowKit Go.Shelf Go.Sort
def Tryz.Jo:Go.Shelf.Ren:=⟨fun | 10=>83 | 6=>115 | n=>n,fun | 22=>22 | 23=>3 | 25=>166 | 3=>3 | 4=>4 | 0=>0 | n=>n,fun | n=>n⟩
theorem Tryz.YU:Go.Proofs.SlLaysH.n10 Tryz.prog Tryz.Jo:={
 mixed:=by kernel_rfl
 f6:=⟨Tryz.f115.name,by decide,Tryz.func115.trans (congrArg some (by kernel_rfl))⟩
 f10:=⟨Tryz.f83.name,by decide,Tryz.func83.trans (congrArg some (by kernel_rfl))⟩
 t0:=Tryz.underlying0
 a0:=Tryz.isAgg0
 z0:=Tryz.sizeOf0
 v0:=Tryz.zeroValue0
 t3:=Tryz.underlying3
 a3:=Tryz.isAgg3
 z3:=Tryz.sizeOf3
 v3:=Tryz.zeroValue3
 t4:=Tryz.underlying4
 a4:=Tryz.isAgg4
 z4:=Tryz.sizeOf4
 v4:=Tryz.zeroValue4
 t22:=Tryz.underlying22
 a22:=Tryz.isAgg22
 z22:=Tryz.sizeOf22
 v22:=Tryz.zeroValue22
 a23:=Tryz.isAgg3
 z23:=Tryz.sizeOf3
 t25:=Tryz.underlying166
 a25:=Tryz.isAgg166
 z25:=Tryz.sizeOf166
 v25:=Tryz.zeroValue166 }
def Rz(N:Nat)(x:Int):Bool:=IntKind.i64.wrap (x.tdiv N)==x.tmod N
theorem YC(a c:Nat)(ha:a<=100000):(IntKind.i64.wrap (a:Int)==(c:Int))=decide (a=c):=by
 rw[db (x:=(a:Int)) (by omega) (by omega)];by_cases e:a=c;.simp[e]
 .rw[decide_eq_false e,beq_eq_false_iff_ne];omega
theorem Wc{N p:Nat}(hp:p<=100000):Rz N p=decide (bP N p):=by
 unfold Rz;have h1:p/N<=100000:=Nat.le_trans (Nat.div_le_self _ _) hp;have e1:(p:Int).tdiv (N:Int)=((p/N:Nat):Int):=by rw[Int.tdiv_eq_ediv_of_nonneg (by omega)];simp
 have e2:(p:Int).tmod (N:Int)=((p%N:Nat):Int):=by rw[Int.tmod_eq_emod_of_nonneg (by omega)];simp
 rw[e1,e2,YC _ _ h1,decide_eq_decide];exact Iff.rfl
theorem LP(x:Int)(b N:Nat)(w:World)(hN:1<=N)(hb:w.cell? ⟨b,0,none⟩=some (.int .i64 N)):
 Calls Tryz.prog 84 #[.int .i64 x,.pointer (some ⟨b,0,none⟩)] w (zk (Rz N x) w):=by
 have h1:¬ (N:Int)=0:=by omega
 have h2:((N:Int)==0)=false:=by rw[beq_eq_false_iff_ne];omega
 have h3:¬ N=0:=by omega
 go_enter Tryz.func84,Tryz.ntmps84;go_upto_region 1 with fail;refine ar (λw'=>w'.cell? ⟨b,0,none⟩=some (.int .i64 N)) 7 [(0,true),(1,true),(2,true),(3,true),(4,true),(5,true),(6,true)] (by kernel_rfl) (by kernel_rfl) ?_;have hS:w.drew.cell? ⟨b,0,none⟩=some (.int .i64 N):=hb;refine ay 4 hS ?_;refine ay 5 hS ?_;refine ay 6 hS ?_;refine ay 7 hS ?_;refine ay 8 hS ?_;refine ay 9 hS ?_;refine ay 10 hS ?_;refine dA ?_;simp only[List.drop_succ_cons,List.drop_zero];clear hS;go_wp2;refine NoPanic.normal ?_;go_wp2;go_ret;exact⟨1,rfl,rfl⟩
theorem Qj(args:Array Value)(w:World):(callFunc 84 args).run Tryz.prog w=.ok (.enter 84 args) w:=by kernel_rfl
theorem TN(x:Int)(b N:Nat)(w:World)(hN:1<=N)(hb:w.cell? ⟨b,0,none⟩=some (.int .i64 N)):FnGives Tryz.prog 84 #[.pointer (some ⟨b,0,none⟩)] #[.int .i64 x] (.bool (Rz N x)) w:=by
 refine(LP x b N w hN hb).mono ?_;rintro e w' ⟨n,rfl,rfl⟩;exact⟨rfl,n,rfl⟩
theorem MO(B:Nat)(v:Value)(xs:List Int)(b N:Nat)(w:World)(h:aj B w v xs)(hx:xs≠[])(hN:1<=N)(hb:w.cell? ⟨b,0,none⟩=some (.int .i64 N))(bM:v.ownBlock≠some b):
 Calls Tryz.prog 83 #[v,.func (.func 84) #[] #[.pointer (some ⟨b,0,none⟩)]] w λe w'=>∃x,e=.returned x/\x.ownBlock=v.ownBlock/\aj B w' x (xs.filter λx=>!Rz N x)/\Below B w w':=by
 have Kz:=World.block_lt_of_cell? _ _ hb;rcases h.2 with ⟨rfl,hn⟩ | ⟨g,cap,cur,rfl,hB,hg,hn,hm,hs,ht⟩;.exact absurd (List.length_eq_zero_iff.1 hn) hx
 .have hne':b≠g:=λe=>bM (by rw[e];rfl);have UC:=AnyE.slices_DeleteFunc Tryz.YU (Value.int .i64) (λ_=>rfl) (Rz N) 84 #[.pointer (some ⟨b,0,none⟩)] (λargs w'=>Qj args w') 0 (λw=>by kernel_rfl) g 0 cap xs.toArray w
   (λW x nh=>TN x b N W hN ((nh.cell (p:=⟨b,0,none⟩) Kz).trans hb))
   (λn os dk x _=>TN x b N _ hN (by
     unfold sortWorld;rw[cell?_grow _ _ _ (by show b<(putRow _ _ _ _ _).heap.size;rw[size_putRow];exact Kz),cell?_putRow_other _ _ g 0 _ _ (Or.inl hne')];exact hb))
   (holds_of_block_i hg (by simpa using ht)) (by have:=h.at.gN;simpa using this) (by simpa using hn);refine Calls.mono UC ?_;rintro e w' ⟨rfl,q,rfl⟩;have Dr:(xs.toArray.toList.filter λx=>!Rz N x)=xs.filter λx=>!Rz N x:=rfl;rw[Dr];have hle:=List.length_filter_le (λx=>!Rz N x) xs;generalize hF:(xs.filter λx=>!Rz N x)=F at *;have hL:(F++List.replicate (xs.toArray.size-F.length) 0).length=xs.length:=by simp;omega
  have ho:=ownsRow_sorted_i (w:=w) (n:=q) (os:=#[]) (ss:=xs) (ts:=F++List.replicate (xs.toArray.size-F.length) 0) hL hB hg hn hm hs;have qJ:=grownBy_sorted_i (w:=w) (g:=g) (n:=q) (os:=#[]) (F++List.replicate (xs.toArray.size-F.length) 0).toArray;rw[grow_empty] at ho qJ;have hO:aj B (putRow (Value.int .i64) (Sort.ahead w q) g 0 (F++List.replicate (xs.toArray.size-F.length) 0).toArray) (.slice (some ⟨g,0,none⟩) xs.length cap) (F++List.replicate (xs.toArray.size-F.length) 0):=by
   unfold aj;rw[hL];exact ho
  have jK:=hO.ZF F.length (by rw[hL];exact hle);rw[List.take_left' rfl] at jK;exact⟨_,rfl,rfl,jK,(Below.refl _ _).grown qJ (by have:=(Array.getElem?_eq_some_iff.1 hg).1;omega) (λk hk=>by cases hk;exact hB)⟩
structure KC (N:Nat) (adj:Nat->List Nat) (D:Nat->Nat) (q:List Nat) (i v:Nat) (pre:List Nat):Prop where
 at_:q[i]?=some v
 nodup:q.Nodup
 low:∀x∈q,x<N*N
 diag:∀x,x<N*N->bP N x->x∈q/\D x=0
 lW:∀x,x<N*N->¬ bP N x->(x∈q↔0<D x)
 mono:∀(j k x y:Nat),j<=k->q[j]?=some x->q[k]?=some y->D x<=D y
 top:∀x∈q,D x<=D v+1
 Wa:∀x∈q,D x<=q.length
 done:∀(k x:Nat),k<i->q[k]?=some x->∀t∈adj x,(¬ bP N t->t∈q/\D t<=D x+1)/\(bP N t->bP N x)
 now:∀t∈pre,(¬ bP N t->t∈q/\D t<=D v+1)/\(bP N t->bP N v)
structure xD (N:Nat) (adj:Nat->List Nat) (D:Nat->Nat) (q:List Nat) (i:Nat):Prop where
 nodup:q.Nodup
 low:∀x∈q,x<N*N
 diag:∀x,x<N*N->bP N x->x∈q/\D x=0
 lW:∀x,x<N*N->¬ bP N x->(x∈q↔0<D x)
 mono:∀(j k x y:Nat),j<=k->q[j]?=some x->q[k]?=some y->D x<=D y
 top:∀v:Nat,q[i]?=some v->∀x∈q,D x<=D v+1
 Wa:∀x∈q,D x<=q.length
 done:∀(k x:Nat),k<i->q[k]?=some x->∀t∈adj x,(¬ bP N t->t∈q/\D t<=D x+1)/\(bP N t->bP N x)
section
variable {N:Nat} {adj:Nat->List Nat} {D:Nat->Nat} {q:List Nat} {i v:Nat} {pre:List Nat}
def diags(N:Nat):List Nat:=(List.range N).map λu=>u*N+u
theorem uS{N x:Nat}:x∈diags N↔∃u,u<N/\x=u*N+u:=by
 unfold diags;rw[List.mem_map];constructor;.rintro⟨u,h,rfl⟩;exact⟨u,List.mem_range.1 h,rfl⟩
 .rintro⟨u,h,rfl⟩;exact⟨u,List.mem_range.2 h,rfl⟩
theorem xD.init(N:Nat)(adj:Nat->List Nat):xD N adj (λ_=>0) (diags N) 0:=by
 refine⟨?_,λx hx=>?_,λx hx hd=>⟨uS.2 ⟨x/N,oh hx,hd.eq⟩,rfl⟩,λx hx hd=>⟨λh=>?_,λh=>absurd h (by simp)⟩,λ_ _ _ _ _ _ _=>Nat.le_refl _,λ_ _ _ _=>by simp,λ_ _=>Nat.zero_le _,λk x hk=>by omega⟩;.unfold diags;rw[List.nodup_iff_pairwise_ne,List.pairwise_map];refine List.pairwise_lt_range.imp_of_mem fun {a b} ha hb h e=>?_;have hb:=List.mem_range.1 hb;have:=Nat.mul_le_mul_right N (show a+1<=b by omega);rw[Nat.add_mul] at this;omega
 .obtain⟨u,hu,rfl⟩:=uS.1 hx;exact pP hu hu
 .obtain⟨u,hu,rfl⟩:=uS.1 h;exact absurd (M7 hu) hd
theorem xD.enter(h:xD N adj D q i)(hv:q[i]?=some v):KC N adj D q i v [] :=
 ⟨hv,h.nodup,h.low,h.diag,h.lW,h.mono,h.top v hv,h.Wa,h.done,λ_ ht=>by cases ht⟩
theorem KC.leave(h:KC N adj D q i v pre)(hp:pre=adj v):xD N adj D q (i+1):=by
 subst hp;refine⟨h.nodup,h.low,h.diag,h.lW,h.mono,λy hy x hx=>?_,h.Wa,λk x hk hx=>?_⟩;.have:=h.mono i (i+1) v y (by omega) h.at_ hy;have:=h.top x hx;omega
 .by_cases e:k=i;.subst e;rw[h.at_] at hx;cases hx;exact h.now
  .exact h.done k x (by omega) hx
theorem KC.skip(h:KC N adj D q i v pre){t:Nat}(ht:(bP N t/\bP N v)\/(¬ bP N t/\t∈q)):KC N adj D q i v (pre++[t]):=by
 refine⟨h.at_,h.nodup,h.low,h.diag,h.lW,h.mono,h.top,h.Wa,h.done,λs hs=>?_⟩;rcases List.mem_append.1 hs with hs | hs;.exact h.now s hs
 .cases List.mem_singleton.1 hs;rcases ht with ⟨h1,h2⟩ | ⟨h1,h2⟩;.exact⟨λq=>absurd h1 q,λ_=>h2⟩
  .exact⟨λ_=>⟨h2,h.top _ h2⟩,λq=>absurd q h1⟩
theorem KC.add(h:KC N adj D q i v pre){t:Nat}(ko:t<N*N)(ht:¬ bP N t)(hq:t∉q):KC N adj (aN D t (D v+1)) (q++[t]) i v (pre++[t]):=by
 have hi:i<q.length:=(List.getElem?_eq_some_iff.1 h.at_).1;have VE:v∈q:=List.mem_of_getElem? h.at_;have hvt:v≠t:=λe=>hq (by rw[<-e];exact VE);have hD:∀x,x∈q->aN D t (D v+1) x=D x:=λx hx=>ag _ _ _ (λe=>hq (by rw[<-e];exact hx));have ph:∀k x,(q++[t])[k]?=some x->(q[k]?=some x/\k<q.length)\/(k=q.length/\x=t):=λk x hx=>by
  rw[List.getElem?_append] at hx;split at hx;.exact .inl ⟨hx,by assumption⟩
  .right;cases hk:k-q.length with
   | zero=>rw[hk] at hx;simp at hx;exact⟨by omega,hx.symm⟩
   | succ n=>rw[hk] at hx;simp at hx
 refine⟨by rw[List.getElem?_append_left hi];exact h.at_,List.nodup_append.2 ⟨h.nodup,by simp,λa ha b hb e=>by cases List.mem_singleton.1 hb;subst e;exact hq ha⟩,λx hx=>?_,λx hx hd=>?_,λx hx hd=>?_,λj k x y KF hx hy=>?_,λx hx=>?_,λx hx=>?_,λk x hk hx s hs=>?_,λs hs=>?_⟩
 .rcases List.mem_append.1 hx with hx | hx;.exact h.low x hx
  .cases List.mem_singleton.1 hx;exact ko
 .obtain⟨h1,h2⟩:=h.diag x hx hd;exact⟨List.mem_append_left _ h1,by rw[hD x h1];exact h2⟩
 .by_cases e:x=t;.subst e;rw[ai];simp
  .rw[ag _ _ _ e,<-h.lW x hx hd];simp[e]
 .rcases ph j x hx with ⟨a1,_⟩ | ⟨a1,rfl⟩
  .rw[hD x (List.mem_of_getElem? a1)];rcases ph k y hy with ⟨b1,_⟩ | ⟨b1,rfl⟩;.rw[hD y (List.mem_of_getElem? b1)];exact h.mono j k x y KF a1 b1
   .rw[ai];exact h.top x (List.mem_of_getElem? a1)
  .rcases ph k y hy with ⟨b1,b2⟩ | ⟨b1,rfl⟩;.omega
   .exact Nat.le_refl _
 .rw[ag D t (D v+1) hvt];rcases List.mem_append.1 hx with hx | hx;.rw[hD x hx];exact h.top x hx
  .cases List.mem_singleton.1 hx;rw[ai];exact Nat.le_refl _
 .rw[List.length_append,List.length_singleton];rcases List.mem_append.1 hx with hx | hx;.rw[hD x hx];have:=h.Wa x hx;omega
  .cases List.mem_singleton.1 hx;rw[ai];have:=h.Wa v VE;omega
 .rcases ph k x hx with ⟨a1,_⟩ | ⟨a1,rfl⟩;.rw[hD x (List.mem_of_getElem? a1)];obtain⟨c1,c2⟩:=h.done k x hk a1 s hs;exact⟨λq'=>by
    obtain⟨d1,d2⟩:=c1 q';exact⟨List.mem_append_left _ d1,by rw[hD s d1];exact d2⟩,c2⟩
  .omega
 .rw[ag D t (D v+1) hvt];rcases List.mem_append.1 hs with hs | hs;.obtain⟨c1,c2⟩:=h.now s hs;exact⟨λq'=>by
    obtain⟨d1,d2⟩:=c1 q';exact⟨List.mem_append_left _ d1,by rw[hD s d1];exact d2⟩,c2⟩
  .cases List.mem_singleton.1 hs;exact⟨λ_=>⟨List.mem_append_right _ (by simp),by rw[ai];exact Nat.le_refl _⟩,λq'=>absurd q' ht⟩
theorem xD.along(h:xD N adj D q i){u:List Nat}(hu:er N adj u):∀j,j+1<u.length ->
 (∃k,k<=j/\u.getD k 0∈q/\D (u.getD k 0)<=k/\∀m,m<i->q[m]?≠some (u.getD k 0))\/(u.getD j 0∈q/\D (u.getD j 0)<=j/\∃m,m<i/\q[m]?=some (u.getD j 0))
 | 0,h1=>by
  obtain⟨a,b⟩:=h.diag _ (hu.low 0 (by omega)) hu.fst;by_cases q':∃m,m<i/\q[m]?=some (u.getD 0 0);.exact .inr ⟨a,by omega,q'⟩
  .exact .inl ⟨0,Nat.le_refl _,a,by omega,λm hm e=>q' ⟨m,hm,e⟩⟩
 | j+1,h1=>by
  rcases h.along hu j (by omega) with ⟨k,k1,k2,k3,k4⟩ | ⟨_,a2,m,m1,m2⟩;.exact .inl ⟨k,by omega,k2,k3,k4⟩
  .obtain⟨c1,_⟩:=h.done m _ m1 m2 _ (hu.arr j (by omega));obtain⟨d1,d2⟩:=c1 (hu.gK (j+1) (by omega) h1);by_cases q':∃m,m<i/\q[m]?=some (u.getD (j+1) 0);.exact .inr ⟨d1,by omega,q'⟩
   .exact .inl ⟨j+1,Nat.le_refl _,d1,by omega,λm hm e=>q' ⟨m,hm,e⟩⟩
theorem xD.none(h:xD N adj D q i)(hi:q.length<=i)(u:List Nat):¬ er N adj u:=λhu=>by
 have h3:=hu.len;rcases h.along hu (u.length-2) (by omega) with ⟨k,_,k2,_,k4⟩ | ⟨_,_,m,m1,m2⟩;.obtain⟨m,hm⟩:=List.mem_iff_getElem?.1 k2;have:=(List.getElem?_eq_some_iff.1 hm).1;exact k4 m (by omega) hm
 .obtain⟨_,c2⟩:=h.done m _ m1 m2 _ (hu.arr (u.length-2) (by omega));refine hu.gK (u.length-2) (by omega) (by omega) (c2 ?_);rw[show u.length-2+1=u.length-1 by omega];exact hu.lst
theorem KC.best(h:KC N adj D q i v pre){u:List Nat}(hu:er N adj u):D v+3<=u.length+1:=by
 have h3:=hu.len;have ho:xD N adj D q i:=⟨h.nodup,h.low,h.diag,h.lW,h.mono,λy hy=>by rw[h.at_] at hy;cases hy;exact h.top,h.Wa,h.done⟩;rcases ho.along hu (u.length-2) (by omega) with ⟨k,k1,k2,k3,k4⟩ | ⟨_,_,m,m1,m2⟩;.obtain⟨m,hm⟩:=List.mem_iff_getElem?.1 k2;have Wp:i<=m:=Nat.le_of_not_lt λq'=>k4 m q' hm;have:=h.mono i m v _ Wp h.at_ hm;omega
 .obtain⟨_,c2⟩:=h.done m _ m1 m2 _ (hu.arr (u.length-2) (by omega));refine absurd (c2 ?_) (hu.gK (u.length-2) (by omega) (by omega));rw[show u.length-2+1=u.length-1 by omega];exact hu.lst
def kl(N:Nat)(adj:Nat->List Nat)(D:Nat->Nat)(q:List Nat)(came:Nat->Int):Prop :=
 (∀x,x<N*N->((came x<0↔bP N x\/x∉q)/\(came x<0->came x=-1)))/\∀x,x<N*N->0<=came x->∃p:Nat,came x=p/\p∈q/\x∈adj p/\D x=D p+1
theorem kl.init(N:Nat)(adj:Nat->List Nat):kl N adj (λ_=>0) (diags N) (λ_=>-1):=by
 refine⟨λx hx=>⟨⟨λ_=>?_,λ_=>(by show(-1:Int)<0;decide)⟩,λ_=>rfl⟩,λx _ h=>by simp at h⟩;by_cases hd:bP N x;.exact .inl hd
 .right;intro hm;obtain⟨u,hu,rfl⟩:=uS.1 hm;exact hd (M7 hu)
theorem kl.add(h:KC N adj D q i v pre){came:Nat->Int}(hc:kl N adj D q came){t:Nat}(ht:¬ bP N t)(hq:t∉q)(ha:t∈adj v):kl N adj (aN D t (D v+1)) (q++[t]) (aN came t (v:Int)):=by
 have VE:v∈q:=List.mem_of_getElem? h.at_;have hvt:v≠t:=λe=>hq (by rw[<-e];exact VE);refine⟨λx hx=>?_,λx hx h0=>?_⟩
 .by_cases e:x=t;.subst e;rw[ai];exact⟨⟨λq'=>by omega,λq'=>by rcases q' with q' | q';exact absurd q' ht;exact absurd (List.mem_append_right _ (by simp)) q'⟩,λq'=>by omega⟩
  .rw[ag _ _ _ e];obtain⟨a,b⟩:=hc.1 x hx;refine⟨?_,b⟩;rw[a];simp[e]
 .by_cases e:x=t;.subst e;refine⟨v,ai ..,List.mem_append_left _ VE,ha,?_⟩;rw[ai,ag _ _ _ hvt]
  .rw[ag _ _ _ e] at h0 ⊢;obtain⟨p,p1,p2,p3,p4⟩:=hc.2 x hx h0;refine⟨p,p1,List.mem_append_left _ p2,p3,?_⟩;rw[ag _ _ _ e,ag _ _ _ (λe'=>hq (by rw[<-e'];exact p2))];exact p4
inductive kM (N:Nat) (adj:Nat->List Nat) (came:Nat->Int):Nat->List Nat->Prop
 | stop (x:Nat) (h:came x=-1) (hd:bP N x):kM N adj came x [x]
 | step (x p:Nat) (c:List Nat) (h:came x=p) (hd:¬ bP N x) (ha:x∈adj p) (hp:p<N*N) (hc:kM N adj came p c):kM N adj came x (x::c)
theorem kl.back{came:Nat->Int}(hq:∀x∈q,x<N*N)(h0:∀x∈q,¬ bP N x->0<D x)(hc:kl N adj D q came):∀n x,D x=n->x∈q->∃c,kM N adj came x c/\c.length<=n+1
 | n,x,hn,hx=>by
  obtain⟨a,b⟩:=hc.1 x (hq x hx);by_cases hd:bP N x;.exact⟨[x],.stop x (b (a.2 (.inl hd))) hd,by simp⟩
  .have h1:0<=came x:=by
    apply Classical.byContradiction;intro q';rcases a.1 (by omega) with q' | q';.exact hd q'
    .exact q' hx
   obtain⟨p,p1,p2,p3,p4⟩:=hc.2 x (hq x hx) h1;obtain⟨c,c1,c2⟩:=kl.back hq h0 hc (n-1) p (by omega) p2;exact⟨x::c,.step x p c p1 hd p3 (hq p p2) c1,by simp;omega⟩
termination_by n=>n
decreasing_by all_goals (have:=h0 x hx hd;omega)
theorem kM.ne{came:Nat->Int}{x:Nat}{c:List Nat}(h:kM N adj came x c):∃c',c=x::c':=by cases h<;>exact⟨_,rfl⟩
theorem kM.next{came:Nat->Int}{x:Nat}{c:List Nat}(h:kM N adj came x c)(hx:x<N*N):∀k y,c[k]?=some y->y<N*N/\((k+1<c.length/\∃z,c[k+1]?=some z/\came y=z)\/(k+1=c.length/\came y=-1)):=by
 induction h with
 | stop x h hd =>
  intro k y hy;cases k with
  | zero=>simp at hy;subst hy;exact⟨hx,.inr ⟨rfl,h⟩⟩
  | succ k=>simp at hy
 | step x p c C1 Rx ha hp hc ih =>
  intro k y hy;obtain⟨c',rfl⟩:=hc.ne;cases k with
  | zero=>simp at hy;subst hy;exact⟨hx,.inl ⟨by simp,p,rfl,C1⟩⟩
  | succ k =>
   have hy:(p::c')[k]?=some y:=by simpa using hy
   obtain⟨h1,h2⟩:=ih hp k y hy;refine⟨h1,h2.imp ?_ ?_⟩;.rintro⟨a,z,b,d⟩;exact⟨by simpa using a,z,by simpa using b,d⟩
   .rintro⟨a,b⟩;exact⟨by simpa using a,b⟩
theorem kM.way{came:Nat->Int}{x:Nat}{c:List Nat}(h:kM N adj came x c)(hx:x<N*N):
 (∀i,i<c.length->c.reverse.getD i 0<N*N)/\(∀i,i+1<c.length->c.reverse.getD (i+1) 0∈adj (c.reverse.getD i 0))/\bP N (c.reverse.getD 0 0)/\(∀i,0<i->i<c.length->¬ bP N (c.reverse.getD i 0))/\c.reverse.getD (c.length-1) 0=x/\0<c.length:=by
 induction h with
 | stop x _ hd=>exact⟨λi hi=>by simp at hi;subst hi;simpa using hx,λi hi=>by simp at hi,by simpa using hd,λi h1 h2=>by simp at h2;omega,by simp,by simp⟩
 | step x p c C1 Rx ha hp hc ih =>
  obtain⟨i1,i2,i3,i4,i5,i6⟩:=ih hp;have g1:∀i,i<c.length->(x::c).reverse.getD i 0=c.reverse.getD i 0:=λi hi=>by
   rw[List.reverse_cons,List.getD_eq_getElem?_getD,List.getElem?_append_left (by simpa using hi)];rfl
  have g2:(x::c).reverse.getD c.length 0=x:=by
   rw[List.reverse_cons,List.getD_eq_getElem?_getD,List.getElem?_append_right (by simp)];simp
  refine⟨λi hi=>?_,λi hi=>?_,?_,λi h1 h2=>?_,?_,by simp⟩
  .by_cases e:i<c.length;.rw[g1 i e];exact i1 i e
   .obtain rfl:i=c.length:=by simp at hi;omega
    rw[g2];exact hx
  .have hi:i+1<c.length+1:=by simpa using hi
   rw[g1 i (by omega)];by_cases e:i+1<c.length;.rw[g1 _ e];exact i2 i e
   .obtain rfl:i=c.length-1:=by omega
    rw[i5,show c.length-1+1=c.length by omega,g2];exact ha
  .rw[g1 0 i6];exact i3
  .by_cases e:i<c.length;.rw[g1 i e];exact i4 i h1 e
   .obtain rfl:i=c.length:=by simp at h2;omega
    rw[g2];exact Rx
  .rw[List.length_cons,Nat.add_sub_cancel,g2]
theorem KC.met(h:KC N adj D q i v pre){came:Nat->Int}(hc:kl N adj D q came){t:Nat}(hv:¬ bP N v)(ht:bP N t)(ko:t<N*N)(ha:t∈adj v):
 ∃c,kM N adj came v c/\er N adj (c.reverse++[t])/\(c.reverse++[t]).length=D v+2/\∀u,er N adj u->(c.reverse++[t]).length<=u.length:=by
 have VE:v∈q:=List.mem_of_getElem? h.at_;obtain⟨c,hb,hl⟩:=hc.back h.low (λx hx hd=>(h.lW x (h.low x hx) hd).1 hx) (D v) v rfl VE;obtain⟨w1,w2,w3,w4,w5,w6⟩:=hb.way (h.low v VE);have h2:2<=c.length:=by
  obtain⟨c',rfl⟩:=hb.ne;cases hb with
  | stop _ _ hd=>exact absurd hd hv
  | step _ p _ _ _ _ _ hc'=>obtain⟨_,rfl⟩:=hc'.ne;simp
 have g1:∀i,i<c.length->(c.reverse++[t]).getD i 0=c.reverse.getD i 0:=λi hi=>by
  rw[List.getD_eq_getElem?_getD,List.getElem?_append_left (by simpa using hi)];rfl
 have g2:(c.reverse++[t]).getD c.length 0=t:=by
  rw[List.getD_eq_getElem?_getD,List.getElem?_append_right (by simp)];simp
 have hL:(c.reverse++[t]).length=c.length+1:=by simp
 have hw:er N adj (c.reverse++[t]):=by
  refine⟨by omega,λi hi=>?_,λi hi=>?_,?_,?_,λi h1 h2=>?_⟩
  .by_cases e:i<c.length;.rw[g1 i e];exact w1 i e
   .obtain rfl:i=c.length:=by omega
    rw[g2];exact ko
  .rw[g1 i (by omega)];by_cases e:i+1<c.length;.rw[g1 _ e];exact w2 i e
   .obtain rfl:i=c.length-1:=by omega
    rw[w5,show c.length-1+1=c.length by omega,g2];exact ha
  .rw[g1 0 (by omega)];exact w3
  .rw[hL,Nat.add_sub_cancel,g2];exact ht
  .rw[g1 i (by omega)];exact w4 i h1 (by omega)
 have T7:∀u,er N adj u->D v+2<=u.length:=λu hu=>by have:=h.best hu;omega
 have:=T7 _ hw;refine⟨c,hb,hw,by omega,λu hu=>?_⟩;have:=T7 u hu;omega
end
theorem Jh{K N:Nat}{T:List Int}{u s:Nat}(hu:u<N)(hs:s<K):rW K N u s*N+rW K N u s∈bu K N T (u*N+u):=by
 rw[dU (by omega),nj hu,nw hu];exact⟨s,s,hs,hs,rfl,rfl⟩
theorem EG{K N:Nat}{T:List Int}{u:Nat}(hu:u<N):∀(n:Nat) (xs:List Int),xs.length=n->bj K xs->bH (bu K N T) (u*N+u) ((u*pw K xs.length+aI K xs)%N*N+(u*pw K xs.length+aI K xs)%N)
 | 0,xs,hn,_=>by
  obtain rfl:=List.length_eq_zero_iff.1 hn;rw[show u*pw K ([]:List Int).length+aI K []=u by simp[pw,aI],Nat.mod_eq_of_lt hu];exact .refl _
 | n+1,xs,hn,hx=>by
  have bM:xs≠[]:=by intro e;subst e;simp at hn
  obtain⟨b,x,rfl⟩:∃b x,xs=b++[x]:=⟨xs.dropLast,xs.getLast bM,(List.dropLast_concat_getLast bM).symm⟩;have hb:b.length=n:=by simpa using hn
  have ih:=EG (T:=T) hu n b hb (λy hy=>hx y (List.mem_append_left _ hy));have Hp:=hx x (by simp);refine .step ih ?_;have:=Jh (T:=T) (u:=(u*pw K b.length+aI K b)%N) (s:=x.toNat) (Nat.mod_lt _ (by omega)) (show x.toNat<K by omega);have e:rW K N ((u*pw K b.length+aI K b)%N) x.toNat=(u*pw K (b++[x]).length+aI K (b++[x]))%N:=by
   unfold rW;rw[cp,List.length_append,List.length_singleton,dW,<-Nat.mul_assoc,show u*pw K b.length*K+(aI K b*K+x.toNat)=(u*pw K b.length+aI K b)*K+x.toNat by rw[Nat.add_mul];omega];rw[Nat.add_mod,Nat.mul_mod,Nat.mod_mod,<-Nat.mul_mod,<-Nat.add_mod]
  rw[e] at this;exact this
theorem P7{K R:Nat}{T:List Int}{u v:Nat}(hK:1<=K)(hu:u<pw K (2*R))(hv:v<pw K (2*R)):bH (bu K (pw K (2*R)) T) (u*pw K (2*R)+u) (v*pw K (2*R)+v):=by
 have:=EG (T:=T) hu (2*R) (aV K (2*R) v) (aK ..) (fM hK _ _);rw[aK,j6 hK _ _ hv,show u*pw K (2*R)+v=pw K (2*R)*u+v by rw[Nat.mul_comm],Nat.mul_add_mod,Nat.mod_eq_of_lt hv] at this;exact this
theorem Iz{G:List (List Int)}(bK:bR G):∀k,k<=G.length->fp G k<0
 | 0,_=>by simp[fp]
 | k+1,hk=>CE (Iz bK k (by omega)) λt ht=>by
  have:=bK k (by omega) t ht;simp[nA];omega
theorem QR{G:List (List Int)}(h1:G.length<=8192)(h2:aU G G.length<=262144)(bK:bR G):cH G=none:=by
 unfold cH;rw[if_neg (by omega),if_neg (by omega),if_neg (by have:=Iz bK G.length (Nat.le_refl _);omega)]
section
variable {K N:Nat} {T:List Int}
theorem fD:(dd K N T).length=N*N:=kR _ _
theorem lE{p:Nat}(hp:p<N*N):(dd K N T).getD p []=aw (bu K N T p):=jX _ _ _ hp
theorem mL{p:Nat}(hp:p<N*N):aq (dd K N T) p=bu K N T p:=by
 unfold aq;rw[lE hp,aw,List.map_map];exact List.map_id _
theorem Ik(hN:0<N):bR (dd K N T):=by
 intro v hv t ht;rw[fD] at hv;rw[lE hv] at ht;obtain⟨q,hq,rfl⟩:=List.mem_map.1 ht;have:=((dU hN).1 hq).lt hN;rw[fD];omega
theorem yc:∀k,k<=N*N->aU (dd K N T) k<=k*(K*K)
 | 0,_=>by simp[aU]
 | k+1,hk=>by
  have:=yc k (by omega);simp only[aU];rw[lE (by omega),aA,Nat.add_mul];have:=og K N T k;omega
theorem tt(hN:0<N)(jo:N<=81)(Ro:N*K<=256):cH (dd K N T)=none:=by
 refine QR ?_ ?_ (Ik hN);.rw[fD];have:=Nat.mul_le_mul jo jo;omega
 .rw[fD];have:=yc (K:=K) (N:=N) (T:=T) (N*N) (Nat.le_refl _);have h2:=Nat.mul_le_mul Ro Ro;rw[show N*K*(N*K)=N*N*(K*K) by rw[Nat.mul_assoc,Nat.mul_left_comm K,<-Nat.mul_assoc]] at h2;omega
theorem oR(hN:0<N){x y:Nat}(h:bH (bu K N T) x y)(hx:x<N*N):bH (aq (dd K N T)) x y/\y<N*N:=by
 induction h with
 | refl=>exact⟨.refl _,hx⟩
 | step h hz ih =>
  exact⟨.step ih.1 (by rw[mL ih.2];exact hz),((dU hN).1 hz).lt hN⟩
end
theorem QW{K R:Nat}{T:List Int}{u:Nat}(hK:1<=K)(hu:u<pw K (2*R)):lh (pw K (2*R)*pw K (2*R)) (aq (dd K (pw K (2*R)) T)) (u*pw K (2*R)+u):=by
 have hp:=pP hu hu;have hN:0<pw K (2*R):=by omega
 have ht:=vJ (K:=K) (u:=u) (s:=0) hN;have hl:kj (aq (dd K (pw K (2*R)) T)) (u*pw K (2*R)+u) :=
  ⟨rW K (pw K (2*R)) u 0*pw K (2*R)+rW K (pw K (2*R)) u 0,by rw[mL hp];exact Jh hu hK,(oR hN (P7 hK ht hu) (pP ht ht)).1⟩;exact⟨⟨_,hp,hl,.refl _⟩,⟨_,hp,hl,.refl _⟩⟩
theorem Ly(r:Nat->Addr)(k R:Int)(va:Option Addr)(vn vc:Nat)(T:List Int)(t:Int×List (ByteArray×Int))(w:World)(hg:ck r w)(h:ae w (.slice va vn vc) T)(hc:cd k R T=some t):
 Calls Tryz.prog 41 #[.agg #[.int .i64 k,.int .i64 R,.slice va vn vc]] w (jf (λx y w'=>x=.slice none 0 0/\bf r w' (under l6 0 (some t)) y) w):=by
 have b0:=ab w (.cells #[.int .i64 k,.int .i64 R,.slice va vn vc] 24);replace hg:=Hd (hg.below b0);replace h:=Hd (h.below b0);replace hc:=Hd hc;go_enter Tryz.func41,Tryz.ntmps41;go_wp2_with fail;refine(Ic r k R va vn vc T t _ hg.out h.out hc.out).mono ?_;rintro e w1 ⟨x,y,rfl,b1,rfl,hy⟩;obtain⟨T2,a2,rfl⟩:∃T a,y=.iface T (.pointer (some a)):=by
  unfold under at hy;exact bf.bX hy
 have ba:=ab w1 (.cells #[.int .i64 0,.int .i64 0,.slice none 0 0] 24);have Ch:=hy.below ba;replace⟨hy,Ch⟩:=bD hy Ch;go_wp2;go_ret2;exact⟨_,_,rfl,Below.step b0 (Below.step b1 ba),rfl,Ch.out⟩
theorem OK(r:Nat->Addr)(K R:Nat)(va:Option Addr)(vn vc:Nat)(T:List Int)(w:World)(hg:ck r w)(h:ae w (.slice va vn vc) T)(hr:aG K R T)(hl:T.length<=256):
 Calls Tryz.prog 42 #[.agg #[.int .i64 K,.int .i64 R,.slice va vn vc]] w (jf (λx y w'=>y=.nilIface/\∃L,iq (pw K (2*fW R)*pw K (2*fW R)) (aq (dd K (pw K (2*fW R)) (lJ K R T))) L/\aj w.heap.size w' x (aw (L.filter λp=>!decide (bP (pw K (2*fW R)) p)))) w):=by
 have b0:=ab w (.cells #[.int .i64 K,.int .i64 R,.slice va vn vc] 24);have q:az (w.alloc (.cells #[.int .i64 K,.int .i64 R,.slice va vn vc] 24)) w.heap.size (.int .i64 K) (.int .i64 R) (.slice va vn vc):=by simp[az,go_sem]
 have dS:=hr.k1;have fs:=hr.k4;have oI:=zw hr;have NO:=qZ hr hl;have Ho:=tW R;have jo:=nB oI Ho NO;obtain⟨hdiv,hlen⟩:=oI.half;have pC:=eN (K:=K) (2*fW R) dS;have Ro:pw K (2*fW R)*K<=256:=by rw[<-hlen];exact NO
 have fK:=tt (K:=K) (N:=pw K (2*fW R)) (T:=lJ K R T) (by omega) jo Ro;have Gq:=QW (K:=K) (R:=fW R) (T:=lJ K R T) (u:=0) dS (by omega);have fj:=λ(w':World) (jI:ck r w') (hT:ae w' (.slice va vn vc) T)=>uJ r K R va vn vc T w' jI hT hr hl;have l9:=λ(w':World) (jI:ck r w') (hT:ae w' (.slice va vn vc) T)=>wP r K R va vn vc T w' jI hT hr hl;have ld:=λ(a:Option Addr) (n c:Nat) (w':World) (jI:ck r w') (hT:ae w' (.slice a n c) (lJ K R T))=>rS r K (fW R) a n c (lJ K R T) w' jI hT oI NO;rw[hdiv] at ld;generalize pw K (2*fW R)=N at *;generalize lJ K R T=T' at *;generalize fW R=R' at *;rw[Nat.zero_mul,Nat.zero_add] at Gq;replace⟨fj,l9,ld,fK,Gq⟩:=mV fj l9 ld fK Gq;replace hg:=Hd (hg.below b0);replace h:=Hd (h.below b0);replace⟨oI,hr,hdiv,hlen⟩:=gF oI hr hdiv hlen;go_enter Tryz.func42,Tryz.ntmps42;go_wp2_with fail;refine(fj.out _ hg.out h.out).mono ?_;rintro e w1 ⟨gv,y,rfl,b1,rfl,f,br,nk,CO⟩;have hL:bh w1 gv (dd K N T'):=CO.lists nk;obtain⟨ga,gc,rfl⟩:=hL.shape;have gQ:∀k,k<(dd K N T').length->((dd K N T').getD k []).length<=17592186044416:=λk hk=>by
  rw[fD] at hk;rw[lE hk,aA];have:=og K N T' k;have:=Nat.mul_le_mul fs fs;omega
 have Hu:N*N<=6561:=Nat.mul_le_mul jo jo;replace⟨nk,CO,hL,gQ⟩:=gF nk CO hL gQ;go_wp2_with fail;refine(TC r ga gc (dd K N T') w1 (hg.out.below b1) hL.out gQ.out).mono ?_;rintro e w2 ⟨lv,y,rfl,b2,he,hls,_⟩;rw[fK.out] at he hls;obtain rfl:=he.dG;obtain⟨L,zZ,ho⟩:=hls rfl;rw[fD] at zZ;clear hls he;have mw:=Below.step b1 b2;have q2:=q.below mw;obtain⟨⟨z0,z1,z2⟩,-,-,-⟩:=q2;replace⟨zZ,ho⟩:=bD zZ ho;go_wp2_with fail;refine(l9.out w2 (hg.out.below mw) (h.out.below mw)).mono ?_;rintro e w3 ⟨x,y,rfl,b3,rfl,a,n,c,rfl,V6⟩;clear z0 z1 z2;have AW:=Below.step mw b3;have ba:=ab w3 (.cells #[.int .i64 K,.int .i64 R',.slice a n c] 24);have um:=Below.step AW ba;have hT4:=V6.below ba;replace⟨V6,hT4⟩:=bD V6 hT4;go_wp2_with fail;refine(ld.out a n c _ (hg.out.below um) hT4.out).mono ?_;rintro e w5 ⟨x,y,rfl,b5,rfl,rfl⟩;have MH:=Below.step um b5;have bb:=ab w5 (.cells #[.int .i64 N] 3);have Ma:=Below.step MH bb;have Pr:=Below.step b3 (Below.step ba (Below.step b5 bb));have IP:=ho.out.below Pr;have cN:(w5.alloc (.cells #[.int .i64 N] 3)).cell? ⟨w5.heap.size,0,none⟩=some (.int .i64 N):=by simp[go_sem]
 have bM:lv.ownBlock≠some w5.heap.size:=λe=>by
  have h1:=(ho.out.lt _ e).2;have h2:=(Below.step b3 (Below.step ba b5)).size;omega
 have hLne:aw L≠[]:=λe=>by
  have:L=[]:=by cases L with | nil=>rfl | cons a l=>simp[aw] at e
  have h0:=(zZ.out.mem 0).2 ⟨by have:=Nat.mul_le_mul pC pC;omega,Gq.out⟩;rw[this] at h0;cases h0
 replace⟨IP,bM,hLne,cN⟩:=gF IP bM hLne cN;go_wp2_with fail;refine(MO w1.heap.size lv (aw L) w5.heap.size N _ IP.out hLne.out pC cN.out bM.out).mono ?_;rintro e w7 ⟨x,rfl,_,eF,b7⟩;have hF:(aw L).filter (λx=>!Rz N x)=aw (L.filter λp=>!decide (bP N p)):=by
  unfold aw;rw[List.filter_map];congr 1;refine List.filter_congr λp hp=>?_;have:=((zZ.out.mem p).1 hp).1;show(!Rz N (p:Int))=_;rw[Wc (by omega)]
 rw[hF] at eF;obtain⟨xa,xn,xc,rfl⟩:=eF.at.shape;have CS:=eF.mono (B':=w.heap.size) (Nat.le_trans b0.size b1.size);have bE:=(Below.step b0 b1).trans ((Below.step b2 Pr).trans b7 |>.mono (Nat.le_trans b0.size b1.size));replace⟨eF,CS,hF⟩:=dO eF CS hF;go_wp2;go_ret2;exact⟨_,_,rfl,bE,rfl,L,zZ.out,CS.out⟩
def Nc(n:Nat)(adj:Nat->List Nat)(v:Nat):Prop:=(∃u,u<n/\(∃t∈adj u,bH adj t u)/\bH adj u v)/\∃u,u<n/\(∃t∈adj u,bH adj t u)/\bH adj v u
def Steps(adj:Nat->List Nat)(l:List Nat):Prop:=∀i,i+1<l.length->l.getD (i+1) 0∈adj (l.getD i 0)
theorem uG{l:List Nat}{y i:Nat}(h:i<l.length):(l++[y]).getD i 0=l.getD i 0:=by
 rw[List.getD_eq_getElem?_getD,List.getElem?_append_left h,<-List.getD_eq_getElem?_getD]
theorem yF{l:List Nat}{y i:Nat}(h:i=l.length):(l++[y]).getD i 0=y:=by
 subst h;simp[List.getD]
theorem Steps.snoc{adj:Nat->List Nat}{l:List Nat}{x y:Nat}(h:Steps adj l)(hx:l.getD (l.length-1) 0=x)(hy:y∈adj x):Steps adj (l++[y]):=by
 intro i hi;simp only[List.length_append,List.length_singleton] at hi;by_cases e:i+1=l.length;.rw[yF e,uG (by omega),show i=l.length-1 by omega,hx];exact hy
 .rw[uG (by omega),uG (by omega)];exact h i (by omega)
theorem bH.head{adj:Nat->List Nat}{x z:Nat}(h:bH adj x z):x=z\/∃y∈adj x,bH adj y z:=by
 induction h with
 | refl=>exact .inl rfl
 | step h hz ih =>
  rcases ih with rfl | ⟨t,ht,hg⟩;.exact .inr ⟨_,hz,.refl _⟩
  .exact .inr ⟨t,ht,.step hg hz⟩
theorem Pd{M:Nat}{adj:Nat->List Nat}(hc:∀x,x<M->∀t∈adj x,t<M)(a:Nat):∀v,(∃u,u<M/\(∃t∈adj u,bH adj t u)/\bH adj u v) ->
 ∃l,l.length=a+1/\l.getD a 0=v/\Steps adj l/\∀x∈l,x<M:=by
 have low:∀{u v},u<M->bH adj u v->v<M:=λhu h=>bH.closed (P:=(·<M)) hc h hu;induction a with
 | zero =>
  rintro v ⟨u,hu,_,hg⟩;exact⟨[v],rfl,rfl,λi hi=>by simp at hi,λx hx=>by rw[List.mem_singleton] at hx;subst hx;exact low hu hg⟩
 | succ a ih =>
  rintro v ⟨u,hu,hl,hg⟩;have hv:=low hu hg;have key:∃y,v∈adj y/\∃u,u<M/\(∃t∈adj u,bH adj t u)/\bH adj u y:=by
   cases hg with
   | refl =>
    obtain⟨t,ht,tU⟩:=hl;cases tU with
    | refl=>exact⟨_,ht,_,hu,⟨_,ht,.refl _⟩,.refl _⟩
    | step h2 hz=>exact⟨_,hz,_,hu,⟨t,ht,.step h2 hz⟩,(bH.one ht).trans h2⟩
   | step h2 hz=>exact⟨_,hz,_,hu,hl,h2⟩
  obtain⟨y,hy,yx⟩:=key;obtain⟨l,l1,l2,l3,l4⟩:=ih y yx;refine⟨l++[v],by simp[l1],yF l1.symm,l3.snoc (by rw[l1,Nat.add_sub_cancel];exact l2) hy,λx hx=>?_⟩;rcases List.mem_append.1 hx with hx | hx;.exact l4 x hx
  .rw[List.mem_singleton] at hx;subst hx;exact hv
theorem Fo{M:Nat}{adj:Nat->List Nat}(hc:∀x,x<M->∀t∈adj x,t<M){v:Nat}(h:Nc M adj v)(a m:Nat):
 ∃l,l.length=a+1+m/\l.getD a 0=v/\Steps adj l/\(∀x∈l,x<M)/\∃u,u<M/\(∃t∈adj u,bH adj t u)/\bH adj (l.getD (a+m) 0) u:=by
 induction m with
 | zero =>
  obtain⟨l,l1,l2,l3,l4⟩:=Pd hc a v h.1;exact⟨l,l1,l2,l3,l4,by rw[Nat.add_zero,l2];exact h.2⟩
 | succ m ih =>
  obtain⟨l,l1,l2,l3,l4,u,hu,ht,hg⟩:=ih;obtain⟨x,hx⟩:=Ex (l.getD (a+m) 0);have hxM:x<M:=l4 x (by rw[<-hx,List.getD_eq_getElem?_getD,List.getElem?_eq_getElem (by omega),Option.getD_some];exact List.getElem_mem _);rw[hx] at hg;have key:∃y∈adj x,∃u,u<M/\(∃t∈adj u,bH adj t u)/\bH adj y u:=by
   rcases hg.head with rfl | ⟨y,hy,yT⟩;.obtain⟨t,ht1,ht2⟩:=ht;exact⟨t,ht1,x,hu,⟨t,ht1,ht2⟩,ht2⟩
   .exact⟨y,hy,u,hu,ht,yT⟩
  obtain⟨y,hy,yx⟩:=key;refine⟨l++[y],by simp[l1];omega,by rw[uG (by omega)];exact l2,l3.snoc (by rw[l1,show a+1+m-1=a+m by omega];exact hx) hy,λz hz=>?_,?_⟩
  .rcases List.mem_append.1 hz with hz | hz;.exact l4 z hz
   .rw[List.mem_singleton] at hz;subst hz;exact hc x hxM z hy
  .rw[yF (by omega)];exact yx
theorem Wj{K m:Nat}{x y:List Int}{i:Nat}(hx:i+m<=x.length)(hy:i+m<=y.length)(h:nodeAt K m x i≠nodeAt K m y i):∃j,j<m/\x.getD (i+j) 0≠y.getD (i+j) 0:=by
 apply Classical.byContradiction;intro q;apply h;unfold nodeAt;congr 1;refine tf (by simp;omega) λt ht=>?_;have ht2:t<m:=by simp only[List.length_take] at ht;omega
 rw[mf ht2,mf ht2];exact Classical.byContradiction λq2=>q ⟨t,ht2,q2⟩
theorem Fe{K N:Nat}(hN:0<N){T:List Int}:∀x,x<N*N->∀t∈bu K N T x,t<N*N:=λ_ _ _ ht=>((dU hN).1 ht).lt hN
theorem BU{K R:Nat}{T:List Int}(h:aG K R T)(hR:1<=R){p:Nat}(hp:Nc (pw K (2*R)*pw K (2*R)) (bu K (pw K (2*R)) T) p)(hd:¬ bP (pw K (2*R)) p):dY K R T:=by
 intro n;have hK:=h.k1;have hN:=eN (K:=K) (2*R) hK;obtain⟨l,l1,l2,l3,l4,-⟩:=Fo (Fe (by omega)) hp n n;have low:∀i,i<l.length->l.getD i 0<pw K (2*R)*pw K (2*R):=λi hi=>l4 _ (by
  rw[List.getD_eq_getElem?_getD,List.getElem?_eq_getElem hi,Option.getD_some];exact List.getElem_mem _);obtain⟨hn,hi⟩:=B6 hK hR (by omega) low l3;have la:=ew K (2*R) (·/pw K (2*R)) l;have lb:=ew K (2*R) (·%pw K (2*R)) l;obtain⟨e1,e2⟩:=hn n (by omega);rw[l2] at e1 e2;obtain⟨j,hj,bM⟩:=Wj (K:=K) (m:=2*R) (x:=dF K (2*R) (·/pw K (2*R)) l) (y:=dF K (2*R) (·%pw K (2*R)) l) (i:=n) (by omega) (by omega) (by rw[e1,e2];exact hd);exact DY (ng hK _ _) (ng hK _ _) (by omega) (j:=n+j) (by omega) (by omega) bM hi
theorem Ts{M:Nat}{f:Nat->Nat}(h:∀i,i<=M->f i<M):∃i j,i<j/\j<=M/\f i=f j:=by
 apply Classical.byContradiction;intro q;have hn:((List.range (M+1)).map f).Nodup:=by
  refine List.pairwise_map.2 (List.Pairwise.imp_of_mem ?_ List.pairwise_lt_range);intro a b ha hb Ae e;exact q ⟨a,b,Ae,by have:=List.mem_range.1 hb;omega,e⟩
 have hs:(List.range (M+1)).map f ⊆ List.range M:=λy hy=>by
  obtain⟨i,hi,rfl⟩:=List.mem_map.1 hy;exact List.mem_range.2 (h i (by have:=List.mem_range.1 hi;omega))
 have:=yG hn hs;simp at this;omega
theorem BJ{adj:Nat->List Nat}{f:Nat->Nat}{a:Nat}:∀d,(∀k,a<=k->k<a+d->f (k+1)∈adj (f k))->bH adj (f a) (f (a+d))
 | 0,_=>.refl _
 | d+1,h=>.step (BJ d λk h1 h2=>h k h1 (by omega)) (h (a+d) (by omega) (by omega))
theorem Bm{K R:Nat}{T:List Int}(h:aG K R T)(hR:1<=R)(ho:dY K R T):∃p,p<pw K (2*R)*pw K (2*R)/\Nc (pw K (2*R)*pw K (2*R)) (bu K (pw K (2*R)) T) p/\¬ bP (pw K (2*R)) p:=by
 have hK:=h.k1;have hN:=eN (K:=K) (2*R) hK;obtain⟨M,hM⟩:=Ex (pw K (2*R)*pw K (2*R));obtain⟨n,hn⟩:=Ex (M+2*R);obtain⟨x,y,sx,sy,lx,ly,bM,e⟩:=ho n;obtain⟨f,hf⟩:∃f:Nat->Nat,f=λi=>nodeAt K (2*R) x i*pw K (2*R)+nodeAt K (2*R) y i:=⟨_,rfl⟩;have nx:∀i,i+2*R<=2*n+1->nodeAt K (2*R) x i<pw K (2*R):=λi hi=>AM sx (by omega);have ny:∀i,i+2*R<=2*n+1->nodeAt K (2*R) y i<pw K (2*R):=λi hi=>AM sy (by omega);have low:∀i,i+2*R<=2*n+1->f i<M:=λi hi=>by rw[hf,<-hM];exact pP (nx i hi) (ny i hi)
 have step:∀i,i+1+2*R<=2*n+1->f (i+1)∈bu K (pw K (2*R)) T (f i):=λi hi=>by
  rw[dU (by omega),hf];show ZX K _ T ((nodeAt K (2*R) x i*pw K (2*R)+nodeAt K (2*R) y i)/pw K (2*R)) ((nodeAt K (2*R) x i*pw K (2*R)+nodeAt K (2*R) y i)%pw K (2*R)) _;rw[nj (ny i (by omega)),nw (ny i (by omega))];exact JK sx sy (by omega) e (by omega)
 have goes:∀a b,a<=b->b+2*R<=2*n+1->bH (bu K (pw K (2*R)) T) (f a) (f b):=λa b Ae hb=>by
  obtain⟨d,rfl⟩:∃d,b=a+d:=⟨b-a,by omega⟩;exact BJ d λk _ _=>step k (by omega)
 refine⟨f n,by rw[hM];exact low n (by omega),⟨?_,?_⟩,?_⟩;.obtain⟨i,j,Nk,hj,eij⟩:=Ts (M:=M) (f:=f) λi hi=>low i (by omega);exact⟨f i,by rw[hM];exact low i (by omega),⟨f (i+1),step i (by omega),by rw[eij];exact goes _ _ (by omega) (by omega)⟩,goes _ _ (by omega) (by omega)⟩
 .obtain⟨i,j,Nk,hj,eij⟩:=Ts (M:=M) (f:=λi=>f (n+i)) λi hi=>low (n+i) (by omega);exact⟨f (n+i),by rw[hM];exact low _ (by omega),⟨f (n+i+1),step _ (by omega),by show bH _ _ (f (n+i));rw[show f (n+i)=f (n+j) from eij];exact goes _ _ (by omega) (by omega)⟩,goes _ _ (by omega) (by omega)⟩
 .intro hd;unfold bP at hd;rw[hf] at hd;dsimp only at hd;rw[nj (ny n (by omega)),nw (ny n (by omega))] at hd;have e1:=iH hK _ (dN (eE sx n) (2*R));have e2:=iH hK _ (dN (eE sy n) (2*R));rw[show((x.drop n).take (2*R)).length=2*R by simp;omega] at e1;rw[show((y.drop n).take (2*R)).length=2*R by simp;omega] at e2;have e3:(x.drop n).take (2*R)=(y.drop n).take (2*R):=by rw[<-e1,<-e2];exact congrArg (aV K (2*R)) hd
  have e4:((x.drop n).take (2*R)).getD 0 0=((y.drop n).take (2*R)).getD 0 0:=by rw[e3]
  rw[mf (by omega),mf (by omega),Nat.add_zero] at e4;exact bM e4
def Tg(Φ:Value->Value->Value->Value->World->Prop)(w:World)(e:Ending)(w':World):Prop:=∃x y z u,e=.returned (.tuple #[x,y,z,u])/\Below w.heap.size w w'/\Φ x y z u w'
theorem nR{fn:Func}{t u v x:Tmp}(h:fn.results=#[.tmp t,.tmp u,.tmp v,.tmp x])(tmps:Array Value)(P:Program)(w:World):
 (results fn tmps).run P w=.ok (.tuple #[tmps.getD t undef,tmps.getD u undef,tmps.getD v undef,tmps.getD x undef]) w:=by
 simp[results,h]
end Go.Proofs.YtgjfejfeoofkhaaGreatDoor
