/-
  Texts that the proof leans on.
-/
import Derived.Test.YtgjfejfeoofkhaaGreatDoorMLr9
set_option maxHeartbeats 8000000
set_option maxRecDepth 100000
namespace Go.Proofs.YtgjfejfeoofkhaaGreatDoor
open Go.RowKit
structure Hh (f:Names) (ov iv gv qv:Value) (n:Nat) (out gK:Nat->Nat) (gone:Nat->Bool) (q:List Nat):Prop where
 outs:f (1,0)=some (aD ov (dQ n out))
 Gp:f (2,0)=some (aD iv (dQ n gK))
 vA:f (3,0)=some (bY 4 gv (fY n gone))
 queue:f (4,0)=some (aD qv (aw q))
section
variable {B:Nat} {w:World} {f:Names} {ov iv gv qv:Value} {n:Nat} {out gK:Nat->Nat} {gone:Nat->Bool} {q:List Nat}
theorem Hh.Uv(h:Hh f ov iv gv qv n out gK gone q)(hr:Rows B w f)(t:Nat)(ht:t<n)(a:Nat):∃f',Rows B (w.setCell (af ov t) (.int .i64 (a:Int))) f'/\Hh f' ov iv gv qv n (aN out t a) gK gone q:=by
 have hs:=hr.Aw h.outs t (by rw[cy];exact ht) (a:Int);rw[Bd] at hs;exact⟨_,hs,⟨ah _ _ _,by rw[ad _ _ (by simp)];exact h.Gp,by rw[ad _ _ (by simp)];exact h.vA,by rw[ad _ _ (by simp)];exact h.queue⟩⟩
theorem Hh.VD(h:Hh f ov iv gv qv n out gK gone q)(hr:Rows B w f)(t:Nat)(ht:t<n)(a:Nat):∃f',Rows B (w.setCell (af iv t) (.int .i64 (a:Int))) f'/\Hh f' ov iv gv qv n out (aN gK t a) gone q:=by
 have hs:=hr.Aw h.Gp t (by rw[cy];exact ht) (a:Int);rw[Bd] at hs;exact⟨_,hs,⟨by rw[ad _ _ (by simp)];exact h.outs,ah _ _ _,by rw[ad _ _ (by simp)];exact h.vA,by rw[ad _ _ (by simp)];exact h.queue⟩⟩
theorem Hh.mark(h:Hh f ov iv gv qv n out gK gone q)(hr:Rows B w f)(t:Nat)(ht:t<n):∃f',Rows B (w.setCell (af gv t) (.bool true)) f'/\Hh f' ov iv gv qv n out gK (aN gone t true) q:=by
 have hs:=hr.L4 h.vA t (by rw[aW];exact ht) (.bool true);rw[rm] at hs;exact⟨_,hs,⟨by rw[ad _ _ (by simp)];exact h.outs,by rw[ad _ _ (by simp)];exact h.Gp,ah _ _ _,by rw[ad _ _ (by simp)];exact h.queue⟩⟩
theorem Hh.push(h:Hh f ov iv gv qv n out gK gone q)(hr:Rows B w f){w1:World}{mi:Value}(t:Nat)(ho:aj B w1 mi (aw q++[(t:Int)]))(hJ:(dJ mi=dJ qv/\w.grownBy w1 qv.ownBlock)\/(∃k,mi.ownBlock=some k/\w.heap.size<=k/\w.grownBy w1 none)):∃f',Rows B w1 f'/\Hh f' ov iv gv mi n out gK gone (q++[t]) :=
 ⟨_,Jt hr h.queue t ho hJ,⟨by rw[ad _ _ (by simp)];exact h.outs,by rw[ad _ _ (by simp)];exact h.Gp,by rw[ad _ _ (by simp)];exact h.vA,ah _ _ _⟩⟩
theorem nt(hr:Rows B w f){i:Nat×Nat}{v:Value}{F:Nat->Nat}(hf:f i=some (aD v (dQ n F)))(t:Nat)(ht:t<n):
 (∀w',(Instr.indexAt 22 v (.int .i64 (t:Int))).run Tryz.prog w'=.ok (.pointer (some (af v t))) w')/\w.cell? (af v t)=some (.int .i64 (F t:Int))/\w.frozen? (af v t)=false/\B<=(af v t).block:=by
 have hO:=hr.aR hf;refine⟨λw'=>hO.at.idx t (by rw[cy];exact ht) w',?_,hO.mQ t (by rw[cy];exact ht),(hO.yB.jP t (by rw[List.length_map,cy];exact ht)).2⟩;rw[hO.at.aH t (by rw[cy];exact ht),rH _ _ _ ht]
theorem qN(hr:Rows B w f){i:Nat×Nat}{v:Value}{F:Nat->Bool}(hf:f i=some (bY 4 v (fY n F)))(t:Nat)(ht:t<n):
 (∀w',(Instr.indexAt 167 v (.int .i64 (t:Int))).run Tryz.prog w'=.ok (.pointer (some (af v t))) w')/\w.cell? (af v t)=some (.bool (F t))/\w.frozen? (af v t)=false/\B<=(af v t).block:=by
 have hO:=hr.ff hf;refine⟨λw'=>hO.at.idx et t (by rw[aW];exact ht) w',?_,hO.mQ t (by rw[aW];exact ht),(hO.jP t (by rw[aW];exact ht)).2⟩;rw[hO.at.lp t (by rw[aW];exact ht),kt _ _ _ ht]
end
def ji(F:Nat->Nat)(k t:Nat):Nat:=if t<k then F t else 0
theorem zA(F:Nat->Nat)(k:Nat):aN (ji F k) k (F k)=ji F (k+1):=by
 funext t;unfold ji;by_cases e:t=k;.subst e;rw[ai,if_pos (by omega)]
 .rw[ag _ _ _ e];by_cases q:t<k;.rw[if_pos q,if_pos (by omega)]
  .rw[if_neg q,if_neg (by omega)]
theorem OB{n:Nat}{f g:Nat->Nat}(h:∀t,t<n->f t=g t):dQ n f=dQ n g:=by
 unfold dQ;exact List.map_congr_left λt ht=>by rw[h t (List.mem_range.1 ht)]
theorem BF(F:Nat->Nat)(n:Nat):dQ n (ji F n)=dQ n F:=OB λt ht=>by unfold ji;rw[if_pos ht]
theorem Ah(F:Nat->Nat)(n:Nat):dQ n (ji F 0)=List.replicate n 0:=by
 unfold dQ;apply List.ext_getElem;.simp
 .intro i h1 h2;simp[ji]
theorem yP(n:Nat):fY n (λ_=>false)=List.replicate n (.bool false):=by
 unfold fY;apply List.ext_getElem<;>simp
theorem Im(p:Nat->Bool)(k:Nat):(List.range (k+1)).filter p=(List.range k).filter p++if p k=true then [k] else []:=by
 rw[List.range_succ,List.filter_append];by_cases h:p k=true;.rw[if_pos h,List.filter_cons_of_pos h];rfl
 .rw[if_neg h,List.filter_cons_of_neg h];rfl
theorem az.keep{B:Nat}{w w':World}{b:Nat}{x0 x1 x2:Value}(h:az w b x0 x1 x2)(hb:Below B w w')(aT:b<B):az w' b x0 x1 x2:=h.kY hb aT
theorem K3(na:Option Addr)(nc:Nat)(G:List (List Int))(w:World)(h:bh w (.slice na G.length nc) G)(gQ:∀k,k<G.length->(G.getD k []).length<=17592186044416):
 Calls Tryz.prog 137 #[.slice na G.length nc] w (jf (WZ w (cH G) (λx w'=>∃L,iq G.length (aq G) L/\aj w.heap.size w' x (aw L))) w):=by
 have b0:=ab w (.cells #[.int .i64 0,.slice none 0 0,.slice none 0 0] 36);have bx:az (w.alloc (.cells #[.int .i64 0,.slice none 0 0,.slice none 0 0] 36)) w.heap.size (.int .i64 0) (.slice none 0 0) (.slice none 0 0):=by
  have q:=oD (Below.refl (w.alloc (.cells #[.int .i64 0,.slice none 0 0,.slice none 0 0] 36)).heap.size (w.alloc (.cells #[.int .i64 0,.slice none 0 0,.slice none 0 0] 36)));exact⟨⟨q.1,q.2.1,q.2.2.1⟩,q.2.2.2⟩
 have RJ:(w.alloc (.cells #[.int .i64 0,.slice none 0 0,.slice none 0 0] 36)).heap.size=w.heap.size+1:=by simp
 have hC:=I5 na nc G _ (h.below b0) gQ;replace⟨hC,bx,RJ,h,gQ⟩:=mV hC bx RJ h gQ;go_enter Tryz.func137,Tryz.ntmps137;go_wp2_with fail;refine hC.out.mono ?_;rintro e w1 ⟨x,rfl,b1,he⟩;clear hC;obtain⟨q,a1,n1,c1,a2,n2,c2,rfl⟩:=he.shape;obtain⟨bb,bx2,D2⟩:=WT w1 (.int .i64 q) (.slice a1 n1 c1) (.slice a2 n2 c2);replace he:=Hd he;go_upto_region 2 with fail;obtain⟨W2,dZ⟩:=Ey (w1.alloc (.cells #[.int .i64 q,.slice a1 n1 c1,.slice a2 n2 c2] 36));rw[<-dZ] at bb bx2 D2 ⊢;clear dZ;obtain⟨⟨y0,y1,y2⟩,_⟩:=bx2;obtain⟨eb,C6⟩:=Ey w1.heap.size;rw[<-C6] at y0 y1 y2 ⊢;clear C6;go_wp2_with fail;refine(fH q a1 n1 c1 a2 n2 c2 W2).mono ?_;rintro e w3 ⟨x,rfl,b3,rfl⟩;have yf:=Below.step bb b3;have z0:=au b3 y0;have z1:=au b3 y1;have z2:=au b3 y2;clear y0 y1 y2;have bx3:=(bx.out.below b1).below yf;have BK:=Below.step b0 (Below.step b1 yf);have Rs:=he.out.below yf;have hsz3:w.heap.size<w3.heap.size:=by have:=RJ.out;have:=b1.size;have:=yf.size;omega
 cases fK:cH G with
 | some t =>
  obtain⟨n,l⟩:=t;rw[fK] at Rs;have hn:=LR fK;obtain rfl:q=n:=by
   obtain⟨_,_,_,_,_,_,e,_⟩:=Rs;simp at e;exact e.1
  rw[hn];obtain⟨⟨r0,r1,r2⟩,f0,f1,f2⟩:=bx3;replace⟨Rs,fK,he⟩:=dO Rs fK he;have hE:=@Hd (cH G=some (q,l)) fK.out;go_upto_region 3 with fail;refine ar (λw'=>w'.cell? ⟨eb,0,none⟩=some (.int .i64 q)/\w'.cell? ⟨eb,1,none⟩=some (.slice a1 n1 c1)/\w'.cell? ⟨eb,2,none⟩=some (.slice a2 n2 c2)) 2 [(0,true),(1,true)] (by kernel_rfl) (by kernel_rfl) ?_;have hS:w3.drew.cell? ⟨eb,0,none⟩=some (.int .i64 q)/\w3.drew.cell? ⟨eb,1,none⟩=some (.slice a1 n1 c1)/\w3.drew.cell? ⟨eb,2,none⟩=some (.slice a2 n2 c2):=⟨z0,z1,z2⟩;refine ay 23 hS ?_;refine ay 2 hS ?_;refine dA ?_;simp only[List.drop_succ_cons,List.drop_zero];clear hS;go_wp2;refine NoPanic.normal ?_;go_wp2;refine bodyPost_ret (v:=.tuple #[.slice none 0 0,.agg #[.int .i64 q,.slice a1 n1 c1,.slice a2 n2 c2]]) (by simp[results,Tryz.results137,go_sem,r0,r1,r2]) rfl ⟨_,_,rfl,aB (below_drewN BK 1) (by simp) _ _ _,?_⟩;rw[hE.out];exact⟨(Rs.out.j9 (by have:=RJ.out;omega) _ _ _).mono (by have:=RJ.out;omega),⟨(λq=>(by cases q)),(λ_=>rfl)⟩⟩
 | none =>
  rw[fK] at Rs;have hz:(q=0/\(a1=none/\n1=0/\c1=0)/\a2=none/\n2=0/\c2=0):=by
   have e:(Value.agg #[.int .i64 q,.slice a1 n1 c1,.slice a2 n2 c2])=lk:=Rs;simpa using e
  obtain⟨rfl,⟨rfl,rfl,rfl⟩,rfl,rfl,rfl⟩:=hz;rw[show((0:Int) != 0)=false from rfl];have Vb:=lr fK;replace⟨Vb,fK,he⟩:=dO Vb fK he;replace bx:=Hd bx.out;clear Rs z0 z1 z2;have bK:=Vb.out.2.2;have hn:=Vb.out.1;have sG:=Vb.out.2.1;have hlen:∀k,k<G.length->(G.getD k []).length<=262144:=λk hk=>by
   have:=fi G (show k+1<=G.length by omega);simp only[aU] at this;omega
  replace⟨bK,hlen,bx3⟩:=dO bK hlen bx3;have sS:w.heap.size<=w3.heap.size:=BK.size;go_wp2_with fail;refine(Mt na nc G w3 (h.out.below BK) bK.out (by omega) sG).mono ?_;rintro e w4 ⟨hv,rfl,b4,H,hT,hH⟩;obtain⟨ha,hc,rfl⟩:=hH.at.shape;have VJ:H.length=G.length:=hT.t.1;have hHok:=uA hT.t;have Ns:∀k,k<G.length->(H.getD k []).length<=262144:=λk hk=>by
   have:=hT.t.2.1 k hk;omega
  have UZ:=hH.at;have Zz:=bx3.out.below b4;have Zb:=Below.step BK b4;have yN:=h.out.below Zb;have hs4:w.heap.size<w4.heap.size:=by have:=b4.size;omega
  rw[VJ] at UZ hH ⊢;obtain⟨ov,w5,mk1,nT,b5⟩:=Es G.length w4 (by omega);obtain⟨iv,w6,mk2,jK,b6⟩:=Es G.length w5 (by omega);obtain⟨gv,w7,mk3,wR,b7⟩:=gS et (G.length:Int) G.length w6 rfl (by omega);have Uc:=λt=>show(aq G t).length=(G.getD t []).length from uC G t
  have KS:=λt=>show(aq H t).length=(H.getD t []).length from uC H t
  rw[<-Ah (λt=>(aq G t).length)] at nT;rw[<-Ah (λt=>(aq H t).length)] at jK;rw[<-yP] at wR;have R1:=(ND w4.heap.size w4).add (i:=(1,0)) (r':=aD ov (dQ G.length (ji (λt=>(aq G t).length) 0))) b5 nT (λk hk=>(nT.lt k hk).1);have R2:=R1.add (i:=(2,0)) (r':=aD iv (dQ G.length (ji (λt=>(aq H t).length) 0))) b6 (jK.mono b5.size) (λk hk=>(jK.lt k hk).1);have R3:=R2.add (i:=(3,0)) (r':=bY 4 gv (fY G.length (λ_=>false))) b7 (wR.mono (Nat.le_trans b5.size b6.size)) (λk hk=>(wR.lt k hk).1);have R4:=R3.add (i:=(4,0)) (r':=aD (.slice none 0 0) []) (Below.refl _ _) (aj.nil _ _) (λk hk=>by cases hk);have b47:Below w4.heap.size w4 w7:=Below.step (Below.step b5 b6) b7;have hN4:Hh (ch (ch (ch (ch (λ_=>none) (1,0) (some (aD ov (dQ G.length (ji (λt=>(aq G t).length) 0))))) (2,0) (some (aD iv (dQ G.length (ji (λt=>(aq H t).length) 0))))) (3,0) (some (bY 4 gv (fY G.length (λ_=>false))))) (4,0) (some (aD (.slice none 0 0) []))) ov iv gv (.slice none 0 0) G.length (ji (λt=>(aq G t).length) 0) (ji (λt=>(aq H t).length) 0) (λ_=>false) [] :=
   ⟨by rw[ad _ _ (by simp),ad _ _ (by simp),ad _ _ (by simp),ah],by rw[ad _ _ (by simp),ad _ _ (by simp),ah],by rw[ad _ _ (by simp),ah],by rw[ah];rfl⟩;generalize ch (ch (ch (ch (λ_=>none) (1,0) (some (aD ov (dQ G.length (ji (λt=>(aq G t).length) 0))))) (2,0) (some (aD iv (dQ G.length (ji (λt=>(aq H t).length) 0))))) (3,0) (some (bY 4 gv (fY G.length (λ_=>false))))) (4,0) (some (aD (.slice none 0 0) []))=f4 at R4 hN4;have mT:mB G.length (aq G) (aq H) (λ_=>false) [] (lh G.length (aq G)) 0:=mB.zero (λt ht x hx=>bK.out.lt t ht x hx) (λt ht x hx=>((lj hT.t bK.out ht).1 hx).1) (λt v ht hv=>hT.cnt t v ht hv);have hgpH:∀t,t<G.length->∀y∈H.getD t [],0<=y/\y<G.length:=λt ht y hy=>by
   obtain⟨v,rfl,hv,_⟩:=(hT.t.2.2 t ht y).1 hy;omega
  replace⟨hgpH,mT,hT,hH,UZ,yN,hHok,Ns⟩:=gp hgpH mT hT hH UZ yN hHok Ns;replace⟨VJ,Zz,Uc,KS,nT,jK,wR,R4⟩:=gp VJ Zz Uc KS nT jK wR R4;clear R1 R2 R3;go_wp2_with fail;clear mk1 mk2 mk3;go_loopw [9,10] (λqv kv wr=>∃(k:Nat) (gone:Nat->Bool) (q:List Nat) (f:Names) (qw:Value),qw=qv/\kv=.int .i64 k/\k<=G.length/\Rows w4.heap.size wr f/\Below w4.heap.size w4 wr/\Hh f ov iv gv qw G.length (ji (λt=>(aq G t).length) k) (ji (λt=>(aq H t).length) k) gone q/\mB G.length (aq G) (aq H) gone q (lh G.length (aq G)) k) (λ_ kv _=>G.length-(intOf kv).toNat);case atStart=>exact⟨0,_,[],f4,_,rfl,rfl,by omega,R4.out,b47,hN4,mT.out⟩
  case round =>
   clear R4 b47 hN4 mT nT jK wR b5 b6 b7;obtain⟨k,gone,q,f,qv,rfl,rfl,hk,hr,bw,hN,sI⟩:=hrel;obtain⟨wo,rfl⟩:=Ey wr;have OU:=eK G.length q sI.nL.nodup sI.nL.low;by_cases aT:k<G.length
   .obtain⟨mv,iR,qK,hM⟩:=yN.out.row k aT;have Bk:bh w4 (.slice ha G.length hc) H:=UZ.out;obtain⟨mh,iS,P0,hMh⟩:=Bk.row k (by have:=VJ.out;omega);have cR:=(bw.cell (World.block_lt_of_cell? _ _ qK)).trans qK;have cS:=(bw.cell (World.block_lt_of_cell? _ _ P0)).trans P0;have lM:=hM.len;have lMh:=hMh.len;rw[<-Uc.out] at lM;rw[<-KS.out] at lMh;obtain⟨iO,cO,fO,kO⟩:=nt hr hN.outs k aT;obtain⟨f1,dX,pC⟩:=hN.Uv hr k aT (aq G k).length;have Nq:Below w4.heap.size w4 (wo.setCell (af ov k) (.int .i64 ((aq G k).length:Int))):=bw.setCell kO _;obtain⟨iI,cI,fI,kI⟩:=nt dX pC.Gp k aT;obtain⟨f2,dI,CV⟩:=pC.VD dX k aT (aq H k).length;have Hl:Below w4.heap.size w4 ((wo.setCell (af ov k) (.int .i64 ((aq G k).length:Int))).setCell (af iv k) (.int .i64 ((aq H k).length:Int))):=Nq.setCell kI _;obtain⟨_,cO2,_,_⟩:=nt dI CV.outs k aT;obtain⟨_,cI2,_,_⟩:=nt dI CV.Gp k aT;rw[ai] at cO2 cI2;have e1:=zA (λt=>(aq G t).length) k;have e2:=zA (λt=>(aq H t).length) k;rw[e1,e2] at CV;obtain⟨iG,cG,fG,kG⟩:=qN dI CV.vA k aT;have cS1:=(Nq.cell (World.block_lt_of_cell? _ _ P0)).trans P0;clear e1 e2;have kg:=λh0=>sI.take (BP hT.out.t bK.out) aT h0;have zW:=sI.skip;obtain⟨la,hla⟩:=Ex ((aq G k).length);obtain⟨lb,Hm⟩:=Ex ((aq H k).length);rw[hla] at lM cO2 dX dI Nq Hl cI fI cI2 kg zW cS1 cG fG;rw[Hm] at lMh cO2 dI Hl cI2 kg zW cG fG;generalize af ov k=oka at *;generalize af iv k=ika at *;generalize af (.slice na G.length nc) k=ra at *;generalize af (.slice ha G.length hc) k=rb at *;obtain⟨gka,hgk⟩:=Ex (af gv k);rw[hgk] at iG cG fG kG;replace⟨hgk,sI,kg,zW,hla,Hm,hr,dX⟩:=gp hgk sI kg zW hla Hm hr dX;replace⟨hM,hMh,qK,P0,Bk⟩:=mV hM hMh qK P0 Bk;generalize (ji (λt=>(aq G t).length) k k:Int)=old1 at cO;generalize (ji (λt=>(aq H t).length) k k:Int)=old2 at cI;go_upto_region 13 with fail;obtain⟨W1,mq⟩:=Ey (wo.setCell oka (.int .i64 (la:Int)));rw[<-mq] at dX dI Nq Hl cI fI cI2 cO2 cS1 cG fG ⊢;clear mq cO fO cR cS;go_upto_region 14 with fail;obtain⟨W2,dZ⟩:=Ey (W1.setCell ika (.int .i64 (lb:Int)));rw[<-dZ] at dI Hl cI2 cO2 cG fG ⊢;clear dZ cI fI cS1;by_cases hz:la=0\/lb=0
    .have I8:=kg.out hz;obtain⟨f3,dP,YO⟩:=CV.mark dI k aT;have bw3:Below w4.heap.size w4 (W2.setCell (af gv k) (.bool true)):=Hl.setCell (by have:=(qN dI CV.vA k aT).2.2.2;exact this) _;have hgka:af gv k=gka:=hgk.out;rw[hgka] at dP bw3;replace⟨hgka,I8,dI,dP⟩:=gF hgka I8 dI dP;by_cases kS:la=0
     .have hq1:((la:Int)==0)=true:=by rw[beq_iff_eq];omega
      replace⟨kS,hz⟩:=bD kS hz;go_upto_region 16 with fail;obtain⟨W3,mr⟩:=Ey (W2.setCell gka (.bool true));rw[<-mr] at dP bw3 ⊢;clear mr cO2 cI2 cG fG;have j7:=dP.out.aR YO.queue;go_wp2_with (at_builtin;refine dD rfl _ _ rfl w4.heap.size qv (aw q) k j7 rfl rfl (by rw[aA];omega) bw3.size ?_);intro mi w7 eF b7 gn;obtain⟨f7,pf,hN7⟩:=YO.push dP.out k eF gn;replace⟨pf,eF⟩:=bD pf eF;clear gn;go_wp2;go_roundw;case measure=>simp[intOf];omega
      case rel=>exact⟨k+1,_,_,f7,mi,rfl,by go_num,by omega,pf.out,bw3.trans b7,hN7,I8.out⟩
     .have hq1:((la:Int)==0)=false:=by rw[beq_eq_false_iff_ne];omega
      have FD:((lb:Int)==0)=true:=by rw[beq_iff_eq];omega
      replace⟨kS,hz⟩:=bD kS hz;go_upto_region 16 with fail;obtain⟨W3,mr⟩:=Ey (W2.setCell gka (.bool true));rw[<-mr] at dP bw3 ⊢;clear mr cO2 cI2 cG fG;have j7:=dP.out.aR YO.queue;go_wp2_with (at_builtin;refine dD rfl _ _ rfl w4.heap.size qv (aw q) k j7 rfl rfl (by rw[aA];omega) bw3.size ?_);intro mi w7 eF b7 gn;obtain⟨f7,pf,hN7⟩:=YO.push dP.out k eF gn;replace⟨pf,eF⟩:=bD pf eF;clear gn;go_wp2;go_roundw;case measure=>simp[intOf];omega
      case rel=>exact⟨k+1,_,_,f7,mi,rfl,by go_num,by omega,pf.out,bw3.trans b7,hN7,I8.out⟩
    .have hq1:((la:Int)==0)=false:=by rw[beq_eq_false_iff_ne];omega
     have FD:((lb:Int)==0)=false:=by rw[beq_eq_false_iff_ne];omega
     have hsk2:=zW.out (by omega) (by omega);replace⟨hsk2,dI,hz⟩:=dO hsk2 dI hz;go_wp2;go_roundw;case measure=>simp[intOf];omega
     case rel=>exact⟨k+1,gone,q,f2,qv,rfl,by go_num,by omega,dI.out,Hl,CV,hsk2.out⟩
   .obtain rfl:k=G.length:=by omega
    have ZL:Hh f ov iv gv qv G.length (λt=>(aq G t).length) (λt=>(aq H t).length) gone q :=
     ⟨by rw[<-BF];exact hN.outs,by rw[<-BF];exact hN.Gp,hN.vA,hN.queue⟩;have Jm:=sI.all;have XT:∀t,t<G.length->(aq H t).length<=262144/\(aq G t).length<=262144:=λt ht=>⟨by rw[KS.out];exact Ns.out t ht,by rw[Uc.out];exact hlen.out t ht⟩;replace⟨sI,Jm,XT,hr⟩:=gF sI Jm XT hr;clear hN;go_wp2_with fail;go_loopw [9,11] (λqv iv2 wr=>∃(i:Nat) (gK out c d:Nat->Nat) (gone:Nat->Bool) (q:List Nat) (f:Names) (qw:Value),qw=qv/\iv2=.int .i64 i/\i<=q.length/\Rows w4.heap.size wr f/\Below w4.heap.size w4 wr/\Hh f ov iv gv qw G.length out gK gone q/\PS G.length (aq G) (aq H) gK out c d gone q (lh G.length (aq G)) i/\∀t,t<G.length->gK t<=262144/\out t<=262144) (λ_ iv2 _=>G.length+1-(intOf iv2).toNat);case atStart=>exact⟨0,_,_,_,_,gone,q,f,qv,rfl,rfl,by omega,hr.out,bw,ZL,Jm.out,XT.out⟩
    case round =>
     clear hr bw ZL Jm XT sI OU;obtain⟨i,gK,out,c,d,gone,q,f,qv,rfl,rfl,hi,hr,bw,hN,sI,yt⟩:=hrel;obtain⟨wo,rfl⟩:=Ey wr;have OU:=eK G.length q sI.nL.nodup sI.nL.low;have j7:=hr.aR hN.queue;have lQ:=j7.at.len;rw[aA] at lQ;by_cases jM:i<q.length
     .obtain⟨v,hv⟩:∃v,q[i]?=some v:=⟨_,List.getElem?_eq_getElem jM⟩;obtain⟨jw,p9,HW,zV⟩:=sI.enter hv;have iV:=λw'=>j7.at.idx i (by rw[aA];exact jM) w';have cV:=j7.at.aH i (by rw[aA];exact jM);rw[j3 hv] at cV;obtain⟨mv,iR,qK,hMG⟩:=yN.out.row v zV;have Bk:bh w4 (.slice ha G.length hc) H:=UZ.out;obtain⟨mh,iS,P0,hMH⟩:=Bk.row v (by have:=VJ.out;omega);have KT:=hlen.out v zV;have hhx:=Ns.out v zV;have hgpG:=bK.out v zV;have U6:=hgpH.out v zV;have Oh:aq G v=(G.getD v []).map Int.toNat:=rfl;have N6:aq H v=(H.getD v []).map Int.toNat:=rfl;generalize G.getD v []=gx at *;generalize H.getD v []=hx at *;have lM:=hMG.len;have lMh:=hMH.len;generalize af qv i=qa at *;generalize af (.slice na G.length nc) v=ra at *;generalize af (.slice ha G.length hc) v=rb at *;replace⟨hr,j7,hMG,hMH,qK,P0,sI,jw⟩:=gp hr j7 hMG hMH qK P0 sI jw;replace⟨yt,hgpG,U6,Oh,N6,hv,Bk⟩:=zb yt hgpG U6 Oh N6 hv Bk;go_wp2_with fail;clear iV cV lQ sI j7 OU hi jM;go_loopw [9,13] (λqv kv wr=>∃(k:Nat) (gK out c d:Nat->Nat) (gone:Nat->Bool) (q:List Nat) (f:Names) (qw:Value),qw=qv/\kv=.int .i64 k/\k<=gx.length/\Rows w4.heap.size wr f/\Below w4.heap.size w4 wr/\Hh f ov iv gv qw G.length out gK gone q/\Rn G.length (aq G) (aq H) gK out c d gone q (lh G.length (aq G)) i v/\(c v=k/\d v=0)/\∀t,t<G.length->gK t<=262144/\out t<=262144) (λ_ kv _=>gx.length-(intOf kv).toNat);case atStart=>exact⟨0,gK,out,c,d,gone,q,f,qv,rfl,rfl,by omega,hr.out,bw,hN,jw.out,⟨p9,HW⟩,yt.out⟩
      case round =>
       clear hr bw hN jw p9 HW yt;obtain⟨k,gK,out,c,d,gone,q,f,qv,rfl,rfl,hk,hr,bw,hN,jw,⟨p9,HW⟩,yt⟩:=hrel;obtain⟨wo,rfl⟩:=Ey wr;have cRm:=(bw.cell (World.block_lt_of_cell? _ _ qK.out)).trans qK.out;have hJ:(aq G v).length=gx.length:=by rw[Oh.out];simp
       have OU:=eK G.length q jw.nL.nodup jw.nL.low;by_cases D5:k<gx.length
       .obtain⟨t,ht⟩:∃t,(aq G v)[k]?=some t:=⟨_,List.getElem?_eq_getElem (by omega)⟩;have tU:gx.getD k 0=(t:Int)/\t<G.length:=by
         have hg:=hgpG.out gx[k] (List.getElem_mem D5);have e:=ht;rw[Oh.out,List.getElem?_map,List.getElem?_eq_getElem D5] at e;injection e with e;rw[List.getD_eq_getElem?_getD,List.getElem?_eq_getElem D5,Option.getD_some];omega
        obtain⟨jZ,gY⟩:=tU;obtain⟨h0,Kv,ig⟩:=jw.step (BP hT.out.t bK.out) p9 ht gY;have K8:=hMG.out.below bw;have iT:=λw'=>K8.idx k D5 w';have cT:=K8.aH k D5;rw[jZ] at cT;obtain⟨iA,cA,fA,kA⟩:=nt hr hN.Gp t gY;obtain⟨b,hb⟩:∃b,gK t=b+1:=⟨gK t-1,by omega⟩;have ZM:=yt t gY;have kZ:gK t-1=b:=by omega
        rw[kZ] at Kv ig;rw[hb] at cA;have Tf:IntKind.i64.wrap (b:Int)=(b:Int):=db (by omega) (by omega);have B7:((b+1:Nat):Int)=(b:Int)+1:=by omega
        rw[B7] at cA;obtain⟨f1,dX,pC⟩:=hN.VD hr t gY b;have Nq:Below w4.heap.size w4 (wo.setCell (af iv t) (.int .i64 (b:Int))):=bw.setCell kA _;obtain⟨_,RC,_,_⟩:=nt dX pC.Gp t gY;rw[ai] at RC;obtain⟨iG,cG,fG,kG⟩:=qN dX pC.vA t gY;have CL:∀x,x<G.length->aN gK t b x<=262144/\out x<=262144:=λx hx=>by
         have:=yt x hx;by_cases e:x=t;.subst e;rw[ai];omega
         .rw[ag _ _ _ e];exact this
        replace⟨CL,yt⟩:=bD CL yt;generalize af iv t=ta at *;generalize af mv k=ja at *;obtain⟨gg,NA⟩:=Ex (gone t);rw[NA] at cG Kv ig;replace⟨hr,K8,jw,ht,jZ,hb,kZ,B7⟩:=gp hr K8 jw ht jZ hb kZ B7;replace⟨NA,Kv,ig,hJ⟩:=gF NA Kv ig hJ;replace cRm0:=Hd cRm;go_upto_region 26 with fail;obtain⟨W1,mq⟩:=Ey (wo.setCell ta (.int .i64 (b:Int)));rw[<-mq] at dX Nq RC cG fG ⊢;clear mq cA fA cT iT cRm;by_cases sl:b=0
        .have WW:((b:Int)==0)=true:=by rw[beq_iff_eq];omega
         cases gg with
         | false =>
          have qD:=Kv.out (by rw[hb.out];omega) rfl;obtain⟨f2,dI,CV⟩:=pC.mark dX t gY;have Hl:Below w4.heap.size w4 (W1.setCell (af gv t) (.bool true)):=Nq.setCell kG _;generalize af gv t=ga at *;replace⟨qD,dX,dI,sl⟩:=gF qD dX dI sl;go_upto_region 28 with fail;obtain⟨W2,dZ⟩:=Ey (W1.setCell ga (.bool true));rw[<-dZ] at dI Hl ⊢;clear dZ RC cG fG iG iA;have j7:=dI.out.aR CV.queue;go_wp2_with (at_builtin;refine dD rfl _ _ rfl w4.heap.size qv (aw q) t j7 rfl rfl (by rw[aA];omega) Hl.size ?_);intro mi w7 eF b7 gn;obtain⟨f7,pf,hN7⟩:=CV.push dI.out t eF gn;replace⟨pf,eF⟩:=bD pf eF;clear gn;go_wp2;go_roundw;case measure=>simp[intOf];omega
          case rel=>exact⟨k+1,aN gK t b,out,aN c v (k+1),d,_,_,f7,mi,rfl,by go_num,by omega,pf.out,Hl.trans b7,hN7,qD.out,⟨ai _ _ _,HW⟩,CL.out⟩
         | true =>
          have qD:=ig.out (λ_=>rfl);replace⟨qD,dX,sl⟩:=dO qD dX sl;go_wp2;go_roundw;case measure=>simp[intOf];omega
          case rel=>exact⟨k+1,aN gK t b,out,aN c v (k+1),d,gone,q,f1,qv,rfl,by go_num,by omega,dX.out,Nq,pC,qD.out,⟨ai _ _ _,HW⟩,CL.out⟩
        .have WW:((b:Int)==0)=false:=by rw[beq_eq_false_iff_ne];omega
         have qD:=ig.out (λq=>by rw[hb.out] at q;omega);replace⟨qD,dX,sl⟩:=dO qD dX sl;go_wp2;go_roundw;case measure=>simp[intOf];omega
         case rel=>exact⟨k+1,aN gK t b,out,aN c v (k+1),d,gone,q,f1,qv,rfl,by go_num,by omega,dX.out,Nq,pC,qD.out,⟨ai _ _ _,HW⟩,CL.out⟩
       .obtain rfl:k=gx.length:=by omega
        rw[<-hJ] at p9;replace⟨jw,yt,hr,hJ⟩:=gF jw yt hr hJ;go_wp2_with fail;clear cRm OU;go_loopw [9,15] (λqv kv wr=>∃(k:Nat) (gK out c d:Nat->Nat) (gone:Nat->Bool) (q:List Nat) (f:Names) (qw:Value),qw=qv/\kv=.int .i64 k/\k<=hx.length/\Rows w4.heap.size wr f/\Below w4.heap.size w4 wr/\Hh f ov iv gv qw G.length out gK gone q/\Rn G.length (aq G) (aq H) gK out c d gone q (lh G.length (aq G)) i v/\(c v=(aq G v).length/\d v=k)/\∀t,t<G.length->gK t<=262144/\out t<=262144) (λ_ kv _=>hx.length-(intOf kv).toNat);case atStart=>exact⟨0,gK,out,c,d,gone,q,f,qv,rfl,rfl,by omega,hr.out,bw,hN,jw.out,⟨p9,HW⟩,yt.out⟩
        case round =>
         clear hr bw hN jw p9 HW yt;obtain⟨k,gK,out,c,d,gone,q,f,qv,rfl,rfl,hk,hr,bw,hN,jw,⟨p9,HW⟩,yt⟩:=hrel;obtain⟨wo,rfl⟩:=Ey wr;have cRm:=(bw.cell (World.block_lt_of_cell? _ _ P0.out)).trans P0.out;have hJ:(aq H v).length=hx.length:=by rw[N6.out];simp
         have OU:=eK G.length q jw.nL.nodup jw.nL.low;by_cases D5:k<hx.length
         .obtain⟨t,ht⟩:∃t,(aq H v)[k]?=some t:=⟨_,List.getElem?_eq_getElem (by omega)⟩;have tU:hx.getD k 0=(t:Int)/\t<G.length:=by
           have hg:=U6.out hx[k] (List.getElem_mem D5);have e:=ht;rw[N6.out,List.getElem?_map,List.getElem?_eq_getElem D5] at e;injection e with e;rw[List.getD_eq_getElem?_getD,List.getElem?_eq_getElem D5,Option.getD_some];omega
          obtain⟨jZ,gY⟩:=tU;obtain⟨h0,Kv,ig⟩:=jw.swap.step (BP hT.out.t bK.out).swap HW ht gY;have K8:=hMH.out.below bw;have iT:=λw'=>K8.idx k D5 w';have cT:=K8.aH k D5;rw[jZ] at cT;obtain⟨iA,cA,fA,kA⟩:=nt hr hN.outs t gY;obtain⟨b,hb⟩:∃b,out t=b+1:=⟨out t-1,by omega⟩;have ZM:=yt t gY;have kZ:out t-1=b:=by omega
          rw[kZ] at Kv ig;rw[hb] at cA;have Tf:IntKind.i64.wrap (b:Int)=(b:Int):=db (by omega) (by omega);have B7:((b+1:Nat):Int)=(b:Int)+1:=by omega
          rw[B7] at cA;obtain⟨f1,dX,pC⟩:=hN.Uv hr t gY b;have Nq:Below w4.heap.size w4 (wo.setCell (af ov t) (.int .i64 (b:Int))):=bw.setCell kA _;obtain⟨_,RC,_,_⟩:=nt dX pC.outs t gY;rw[ai] at RC;obtain⟨iG,cG,fG,kG⟩:=qN dX pC.vA t gY;have CL:∀x,x<G.length->gK x<=262144/\aN out t b x<=262144:=λx hx=>by
           have:=yt x hx;by_cases e:x=t;.subst e;rw[ai];omega
           .rw[ag _ _ _ e];exact this
          replace⟨CL,yt⟩:=bD CL yt;generalize af ov t=ta at *;generalize af mh k=ja at *;obtain⟨gg,NA⟩:=Ex (gone t);rw[NA] at cG Kv ig;replace⟨hr,K8,jw,ht,jZ,hb,kZ,B7⟩:=gp hr K8 jw ht jZ hb kZ B7;replace⟨NA,Kv,ig,hJ⟩:=gF NA Kv ig hJ;replace cRm0:=Hd cRm;go_upto_region 34 with fail;obtain⟨W1,mq⟩:=Ey (wo.setCell ta (.int .i64 (b:Int)));rw[<-mq] at dX Nq RC cG fG ⊢;clear mq cA fA cT iT cRm;by_cases sl:b=0
          .have WW:((b:Int)==0)=true:=by rw[beq_iff_eq];omega
           cases gg with
           | false =>
            have qD:=Kv.out (by rw[hb.out];omega) rfl;obtain⟨f2,dI,CV⟩:=pC.mark dX t gY;have Hl:Below w4.heap.size w4 (W1.setCell (af gv t) (.bool true)):=Nq.setCell kG _;generalize af gv t=ga at *;replace⟨qD,dX,dI,sl⟩:=gF qD dX dI sl;go_upto_region 36 with fail;obtain⟨W2,dZ⟩:=Ey (W1.setCell ga (.bool true));rw[<-dZ] at dI Hl ⊢;clear dZ RC cG fG iG iA;have j7:=dI.out.aR CV.queue;go_wp2_with (at_builtin;refine dD rfl _ _ rfl w4.heap.size qv (aw q) t j7 rfl rfl (by rw[aA];omega) Hl.size ?_);intro mi w7 eF b7 gn;obtain⟨f7,pf,hN7⟩:=CV.push dI.out t eF gn;replace⟨pf,eF⟩:=bD pf eF;clear gn;go_wp2;go_roundw;case measure=>simp[intOf];omega
            case rel=>exact⟨k+1,gK,aN out t b,c,aN d v (k+1),_,_,f7,mi,rfl,by go_num,by omega,pf.out,Hl.trans b7,hN7,qD.out.swap,⟨p9,ai _ _ _⟩,CL.out⟩
           | true =>
            have qD:=ig.out (λ_=>rfl);replace⟨qD,dX,sl⟩:=dO qD dX sl;go_wp2;go_roundw;case measure=>simp[intOf];omega
            case rel=>exact⟨k+1,gK,aN out t b,c,aN d v (k+1),gone,q,f1,qv,rfl,by go_num,by omega,dX.out,Nq,pC,qD.out.swap,⟨p9,ai _ _ _⟩,CL.out⟩
          .have WW:((b:Int)==0)=false:=by rw[beq_eq_false_iff_ne];omega
           have qD:=ig.out (λq=>by rw[hb.out] at q;omega);replace⟨qD,dX,sl⟩:=dO qD dX sl;go_wp2;go_roundw;case measure=>simp[intOf];omega
           case rel=>exact⟨k+1,gK,aN out t b,c,aN d v (k+1),gone,q,f1,qv,rfl,by go_num,by omega,dX.out,Nq,pC,qD.out.swap,⟨p9,ai _ _ _⟩,CL.out⟩
         .obtain rfl:k=hx.length:=by omega
          have vV:=jw.leave p9 (by rw[HW,hJ]);have td:=km jw.cur;replace⟨vV,jw,yt,hr,hJ⟩:=mV vV jw yt hr hJ;go_wp2;go_roundw;case measure=>simp[intOf];omega
          case rel=>exact⟨i+1,gK,out,c,d,gone,q,f,qv,rfl,by go_num,by omega,hr.out,bw,hN,vV.out,yt.out⟩
     .obtain rfl:i=q.length:=by omega
      have KZ:=sI.end_ hT.out.t bK.out;have qj:=hr.add (i:=(5,0)) (r':=aD (.slice none 0 0) []) (Below.refl _ _) (aj.nil _ _) (λk hk=>by cases hk);have Lm:ch f (5,0) (some (aD (.slice none 0 0) [])) (3,0)=some (bY 4 gv (fY G.length gone)):=by rw[ad _ _ (by simp)];exact hN.vA
      have hl5:ch f (5,0) (some (aD (.slice none 0 0) [])) (5,0)=some (aD (.slice none 0 0) (aw [])):=by rw[ah];rfl
      generalize ch f (5,0) (some (aD (.slice none 0 0) []))=f5 at qj Lm hl5;replace⟨KZ,qj,Lm,hl5,sI,yt,hr,j7⟩:=gp KZ qj Lm hl5 sI yt hr j7;go_wp2_with fail;go_loopw [17,18] (λlv kv wr=>∃(k:Nat) (f:Names) (lw:Value),lw=lv/\kv=.int .i64 k/\k<=G.length/\Rows w4.heap.size wr f/\Below w4.heap.size w4 wr/\f (3,0)=some (bY 4 gv (fY G.length gone))/\f (5,0)=some (aD lw (aw ((List.range k).filter λt=>!gone t)))) (λ_ kv _=>G.length-(intOf kv).toNat);case atStart=>exact⟨0,f5,_,rfl,rfl,by omega,qj.out,bw,Lm.out,hl5.out⟩
      case round =>
       clear qj Lm hl5 hr bw hN j7;obtain⟨k,f,lv,rfl,rfl,hk,hr,bw,CZ,Kx⟩:=hrel;obtain⟨wo,rfl⟩:=Ey wr;have Kq:=hr.aR Kx;have I7:((List.range k).filter λt=>!gone t).length<=10000:=by
        have:=List.length_filter_le (λt=>!gone t) (List.range k);rw[List.length_range] at this;omega
       by_cases D5:k<G.length;.obtain⟨iG,cG,fG,kG⟩:=qN hr CZ k D5;have Tq:=Im (λt=>!gone t) k;generalize af gv k=ga at *;obtain⟨gg,NA⟩:=Ex (gone k);rw[NA] at cG;simp only[NA] at Tq;generalize (List.range k).filter (λt=>!gone t)=L at *;cases gg with
        | true =>
         rw[if_neg (by decide),List.append_nil] at Tq;rw[<-Tq] at Kx;replace⟨Tq,CZ,Kx,hr,Kq,NA⟩:=rr Tq CZ Kx hr Kq NA;go_wp2;go_roundw;case measure=>simp[intOf];omega
         case rel=>exact⟨k+1,f,lv,rfl,by go_num,by omega,hr.out,bw,CZ.out,Kx.out⟩
        | false =>
         rw[if_pos (by decide)] at Tq;replace⟨Tq,CZ,Kx,hr,NA⟩:=mV Tq CZ Kx hr NA;go_wp2_with (at_builtin;refine dD rfl _ _ rfl w4.heap.size lv (aw L) k Kq rfl rfl (by rw[aA];omega) bw.size ?_);intro lv' w7 eF b7 gn;have R7:=Jt hr.out Kx.out k eF gn;replace⟨R7,eF⟩:=bD R7 eF;clear gn;go_wp2;go_roundw;case measure=>simp[intOf];omega
         case rel=>exact⟨k+1,_,lv',rfl,by go_num,by omega,R7.out,bw.trans b7,(ad _ _ (by simp)).trans CZ.out,by rw[ah,Tq.out]⟩
       .obtain rfl:k=G.length:=by omega
        obtain⟨⟨s0,s1,s2⟩,g0,g1,g2⟩:=Zz.out.keep bw hs4;have bwe:=Zb.trans (bw.mono (Nat.le_of_lt hs4));replace⟨Kq,hr,CZ,Kx⟩:=gF Kq hr CZ Kx;go_wp2;refine bodyPost_ret (v:=.tuple #[lv,lk]) (by simp[results,Tryz.results137,go_sem,s0,s1,s2]) rfl ⟨_,_,rfl,aB bwe (by simp) _ _ _,?_⟩;rw[fK.out];exact⟨rfl,⟨(λ_=>⟨_,KZ.out,(Kq.out.j9 hs4 _ _ _).mono (Nat.le_of_lt hs4)⟩),(λq=>absurd rfl q)⟩⟩
theorem dm(p N:Nat)(hp:p<=100000000):(p:Int).tdiv (N:Int)=((p/N:Nat):Int)/\(p:Int).tmod (N:Int)=((p%N:Nat):Int)/\(p:Int)/(N:Int)=((p/N:Nat):Int)/\(p:Int)%(N:Int)=((p%N:Nat):Int) /\
 IntKind.i64.wrap ((p/N:Nat):Int)=((p/N:Nat):Int)/\IntKind.i64.wrap ((p%N:Nat):Int)=((p%N:Nat):Int):=by
 have h1:p/N<=p:=Nat.div_le_self _ _;have h2:p%N<=p:=Nat.mod_le _ _;refine⟨by rw[Int.tdiv_eq_ediv_of_nonneg (by omega)];simp,by rw[Int.tmod_eq_emod_of_nonneg (by omega)];simp,by simp,by simp,?_,?_⟩;.generalize p/N=a at *;exact db (by omega) (by omega)
 .generalize p%N=a at *;exact db (by omega) (by omega)
theorem My(x:Int)(b N:Nat)(w:World)(hN:N<=10000)(hb:w.cell? ⟨b,0,none⟩=some (.int .i64 N)):
 Calls Tryz.prog 96 #[.int .i64 x,.pointer (some ⟨b,0,none⟩)] w λe w'=>e=.returned (.bool (lR ((N*N:Nat):Int) x))/\w=w':=by
 have hM:(N:Int)*(N:Int)=((N*N:Nat):Int):=by simp
 have hM2:=Nat.mul_le_mul hN hN;by_cases h:x<0
 .have e:lR ((N*N:Nat):Int) x=true:=by simp[lR,h]
  rw[e];clear hM hM2;go_enter Tryz.func96,Tryz.ntmps96;go_wp2;go_ret;exact⟨rfl,rfl⟩
 .have e:lR ((N*N:Nat):Int) x=decide (((N*N:Nat):Int)<=x):=by simp[lR,h]
  rw[e];generalize N*N=M at *;clear e;go_enter Tryz.func96,Tryz.ntmps96;go_wp2;go_ret;exact⟨kr (by simp),rfl⟩
theorem Pg(args:Array Value)(w:World):(callFunc 96 args).run Tryz.prog w=.ok (.enter 96 args) w:=by kernel_rfl
theorem Cj(K R x q:Nat)(w:World)(dS:1<=K)(fs:K<=4)(hR:R<=3)(hx:x<=100000)(q0:w.cell? ⟨q,0,none⟩=some (.int .i64 K))(q1:w.cell? ⟨q,1,none⟩=some (.int .i64 R)):
 Calls Tryz.prog 98 #[.int .i64 x,.pointer (some ⟨q,0,none⟩)] w (cz (λy w'=>aj w.heap.size w' y (aV K (2*R) x)) w):=by
 obtain⟨ov,w1,mk,ho,kZ⟩:=bG (2*(R:Int)) (2*R) w (by omega) (by omega);have lo:=ho.at.len;rw[List.length_replicate] at lo;obtain⟨oa,on,oc,rfl⟩:=ho.at.shape;have OQ:=World.block_lt_of_cell? _ _ q0;have hK0:((K:Int)==0)=false:=by rw[beq_eq_false_iff_ne];omega
 have Yy:¬ (K:Int)=0:=by omega
 have hK2:(0:Int)<K:=by omega
 have hK3:¬ K=0:=by omega
 obtain⟨N,hN⟩:=Ex (2*R);have hN6:N<=6:=by omega
 rw[hN] at ho lo ⊢;have hNi:2*(R:Int)=(N:Int):=by omega
 have hNw:IntKind.i64.wrap (N:Int)=N:=db (by omega) (by omega);rw[hNi] at mk;replace⟨ho,hN⟩:=bD ho hN;go_enter Tryz.func98,Tryz.ntmps98;go_wp2_with fail;clear mk;go_loopw [0,12] (λxv jv wr=>∃j:Nat,j<=N/\jv=.int .i64 j/\xv=.int .i64 (x/pw K j:Nat)/\aj w.heap.size wr (.slice oa on oc) ((List.replicate N (0:Int)).take (N-j)++(aV K N x).drop (N-j))/\Below w.heap.size w wr) (λ_ jv _=>N-(intOf jv).toNat);case atStart=>exact⟨0,by omega,rfl,by simp[pw],by rw[Nat.sub_zero,List.drop_of_length_le (by rw[aK];exact Nat.le_refl _),List.append_nil,List.take_of_length_le (by simp)];exact ho.out,kZ⟩
 case round =>
  obtain⟨j,hj,rfl,rfl,hO,AU⟩:=hrel;obtain⟨wi,rfl⟩:=Ey wr;by_cases dw:j<N
  .have tp:((List.replicate N (0:Int)).take (N-j)++(aV K N x).drop (N-j)).length=N:=by simp only[List.length_append,List.length_take,List.length_replicate,List.length_drop,aK];omega
   have i1:∀w',(Instr.indexAt 22 (.slice oa on oc) (.int .i64 ((N:Int)-1-(j:Int)))).run Tryz.prog w'=.ok (.pointer (some (af (.slice oa on oc) (N-1-j)))) w':=by
    intro w';have:=hO.at.Mi ((N:Int)-1-(j:Int)) (by omega) (by rw[tp];omega) w';rwa [show((N:Int)-1-(j:Int)).toNat=N-1-j by omega] at this
   have c1:=hO.at.aH (N-1-j) (by rw[tp];omega);have f1:=hO.mQ (N-1-j) (by rw[tp];omega);have hS:=hO.set (N-1-j) (by rw[tp];omega) ((x/pw K j%K:Nat):Int);have ql:=hO.dB AU (N-1-j) (by rw[tp];omega) (.int .i64 ((x/pw K j%K:Nat):Int));rw[yU K N x j dw _ (by simp)] at hS;have V0:x/pw K j/K=x/pw K (j+1):=by rw[Nat.div_div_eq_div_mul,<-dW]
   have OQ:x/pw K j<=100000:=Nat.le_trans (Nat.div_le_self _ _) hx;have y0:=(AU.cell (p:=⟨q,0,none⟩) (World.block_lt_of_cell? _ _ q0)).trans q0;have hbe:=hO.jP (N-1-j) (by rw[tp];omega);generalize ((List.replicate N (0:Int)).take (N-j)++(aV K N x).drop (N-j)).getD (N-1-j) 0=y at c1;have Zi:(wi.setCell (af (.slice oa on oc) (N-1-j)) (.int .i64 ((x/pw K j%K:Nat):Int))).cell? ⟨q,0,none⟩=some (.int .i64 K):=(ql.cell (p:=⟨q,0,none⟩) (World.block_lt_of_cell? _ _ q0)).trans q0;have hlen':=lo;generalize af (.slice oa on oc) (N-1-j)=ya at *;generalize x/pw K j=z at *;obtain⟨a1,a2,a3,a4,a5,a6⟩:=dm z K (by omega);obtain⟨d,hd⟩:=Ex (z%K);obtain⟨e,he⟩:=Ex (z/K);rw[hd] at a2 a4 a6 hS ql Zi;rw[he] at a1 a3 a5 V0;replace⟨hS,ql,V0,hO,hd,he⟩:=rr hS ql V0 hO hd he;clear tp;go_wp2;go_roundw;case rel=>exact⟨j+1,by omega,by go_num,by rw[<-V0.out],hS.out,ql.out⟩
   case measure=>simp[intOf];omega
  .obtain rfl:j=N:=by omega
   rw[Nat.sub_self,List.take_zero,List.drop_zero,List.nil_append] at hO;replace hO:=Hd hO;go_wp2;go_ret;exact⟨_,rfl,AU,hO.out⟩
theorem Rows.push{B:Nat}{w w1:World}{f:Names}{i:Nat×Nat}{v v':Value}{xs:List Int}(h:Rows B w f)(hi:f i=some (aD v xs))(x:Int)(ho:aj B w1 v' (xs++[x]))(hg:w.grownBy w1 v.ownBlock)(hJ:v'.ownBlock=v.ownBlock\/∃k,v'.ownBlock=some k/\w.heap.size<=k):Rows B w1 (ch f i (some (aD v' (xs++[x])))) :=
 h.grown (r':=aD v' (xs++[x])) hi hg ho hJ
theorem zP(K m:Nat)(F:Nat->Nat)(l:List Nat)(p:Nat)(hl:l≠[]):dF K m F (l++[p])=dF K m F l++[((F p%K:Nat):Int)]:=by
 cases l with
 | nil=>exact absurd rfl hl
 | cons a l=>simp[dF,List.getD]
theorem Ck(K m:Nat)(F:Nat->Nat)(p:Nat):dF K m F [p]=aV K m (F p):=by simp[dF,List.getD]
theorem tL(r:Nat->Addr)(at_ n:Int)(w:World)(hg:ck r w)(h1:1<=n)(h2:n<=11):
 Calls Tryz.prog 97 #[.int .i64 at_,.int .i64 n] w (cz (λv w'=>bf r w' (fresh l6 at_ n) v) w):=by
 go_enter Tryz.func97,Tryz.ntmps97;go_wp2_with fail;refine(uy r _ at_ n w hg h1 h2).mono ?_;rintro e w' ⟨v,rfl,hb,he⟩;go_wp2;go_ret;exact⟨_,rfl,hb,he⟩
def wQ(K N:Nat)(T:List Int)(ns:List Nat):Prop:=∀i,i+1<ns.length->l7 K N T (ns.getD i 0) (ns.getD (i+1) 0)
theorem CJ(v b c:Value)(F:Nat)(xs:List Int)(p:Int->Bool)(w:World)(h:ae w v xs)(eg:∀args w,(callFunc F args).run Tryz.prog w=.ok (.enter F args) w)(hF:∀x:Int,x∈xs->∀n,Calls Tryz.prog F #[.int .i64 x,b,c] (w.drewN n) (zk (p x) (w.drewN n))):
 Calls Tryz.prog 115 #[v,.func (.func F) #[] #[b,c]] w λe w'=>∃n,e=.returned (.int .i64 (idxOf p xs))/\w'=w.drewN n:=by
 have hlen:=h.len;have hm:=h.gN;replace hF:=Hd hF;go_enter Tryz.func115,Tryz.ntmps115;go_wp2;go_loopw [8] (λi wr=>(∃k:Nat,k<=xs.length/\i=.int .i64 k/\∀j (hj:j<xs.length),j<k->p xs[j]=false)/\∃n,wr=w.drewN n) (λi _=>xs.length-(intOf i).toNat);case atStart=>exact⟨⟨0,by omega,rfl,by intro t _ h;omega⟩,0,rfl⟩
 case round =>
  obtain⟨⟨k,hk,rfl,hp⟩,n,rfl⟩:=hrel;replace hp:=Hd hp;by_cases aT:k<xs.length
  .have hi:=h.idx k aT;have hc:(w.drewN n).cell? (af v k)=some (.int .i64 xs[k]):=h.cell k aT;have hf:=Hd (hF.out xs[k] (by simp) n);go_wp2_with fail;refine hf.out.mono ?_;rintro e w' ⟨n2,rfl,rfl⟩;cases KD:p xs[k]
   .have HP:=Hd KD;go_wp2;go_roundw;case rel =>
     refine⟨⟨k+1,by omega,by go_num,?_⟩,_,rfl⟩;intro j hj KF;by_cases e:j=k;.subst e;exact HP.out
     .exact hp.out j hj (by omega)
    case measure=>simp[intOf];omega
   .have HP:=Hd KD;go_wp2;go_ret;exact⟨_,nW (xR k aT HP.out λj hj h=>hp.out j hj h).symm,rfl⟩
  .go_wp2;go_ret;refine⟨n,nW (ob λx hx=>?_).symm,rfl⟩;obtain⟨j,hj,rfl⟩:=List.mem_iff_getElem.1 hx;exact hp.out j hj (by omega)
theorem O6(p:Int->Bool)(xs:List Int):(0<=idxOf p xs)↔∃x∈xs,p x=true:=by
 rcases lH p xs with ⟨h1,h2⟩ | ⟨k,h1,h2,h3,_⟩;.rw[h1];exact⟨λh=>by omega,λ⟨x,hx,hp⟩=>by rw[h2 x hx] at hp;cases hp⟩
 .rw[h1];exact⟨λ_=>⟨_,List.getElem_mem h2,h3⟩,λ_=>by omega⟩
theorem xh(v b c:Value)(F:Nat)(xs:List Int)(p:Int->Bool)(w:World)(h:ae w v xs)(eg:∀args w,(callFunc F args).run Tryz.prog w=.ok (.enter F args) w)(hF:∀x:Int,x∈xs->∀n,Calls Tryz.prog F #[.int .i64 x,b,c] (w.drewN n) (zk (p x) (w.drewN n))):
 Calls Tryz.prog 95 #[v,.func (.func F) #[] #[b,c]] w (zk (decide (0<=idxOf p xs)) w):=by
 have hI:=CJ v b c F xs p w h eg hF;clear hF eg;go_enter Tryz.func95,Tryz.ntmps95;go_wp2_with fail;refine hI.mono ?_;rintro e w' ⟨n,rfl,rfl⟩;go_wp2;go_ret;exact⟨n,kr (by simp),rfl⟩
theorem Mv(t v bp bv:Nat)(pv:Value)(ps:List Int)(w:World)(hp:ae w pv ps)(c1:w.cell? ⟨bp,0,none⟩=some pv)(c2:w.cell? ⟨bv,0,none⟩=some (.int .i64 v))(ht:t<ps.length)(hv:v<ps.length):
 Calls Tryz.prog 131 #[.int .i64 t,.pointer (some ⟨bp,0,none⟩),.pointer (some ⟨bv,0,none⟩)] w (zk (decide (ps.getD t 0=ps.getD v 0)) w):=by
 have iT:=λw'=>hp.idx t ht w';have cT:=hp.aH t ht;have iV:=λw'=>hp.idx v hv w';have cV:=hp.aH v hv;generalize ps.getD t 0=a at *;generalize ps.getD v 0=b at *;have heq:(a==b)=decide (a=b):=by by_cases e:a=b<;>simp[e]
 generalize af pv t=ta at *;generalize af pv v=va at *;replace⟨hp,heq⟩:=bD hp heq;generalize hd:decide (a=b)=d at *;go_enter Tryz.func131,Tryz.ntmps131;go_upto_region 1 with fail;refine ar (λw'=>w'.cell? ⟨bp,0,none⟩=some pv/\w'.cell? ⟨bv,0,none⟩=some (.int .i64 v)/\w'.cell? ta=some (.int .i64 a)/\w'.cell? va=some (.int .i64 b)) 9 [(0,true),(1,true),(2,true),(3,true),(4,true),(5,true),(6,true),(7,true),(8,true)] (by kernel_rfl) (by kernel_rfl) ?_;have hS:w.drew.cell? ⟨bp,0,none⟩=some pv/\w.drew.cell? ⟨bv,0,none⟩=some (.int .i64 v)/\w.drew.cell? ta=some (.int .i64 a)/\w.drew.cell? va=some (.int .i64 b):=⟨c1,c2,cT,cV⟩;refine ay 5 hS ?_;refine ay 6 hS ?_;refine ay 7 hS ?_;refine ay 8 hS ?_;refine ay 9 hS ?_;refine ay 10 hS ?_;refine ay 11 hS ?_;refine ay 12 hS ?_;refine ay 13 hS ?_;refine dA ?_;simp only[List.drop_succ_cons,List.drop_zero];clear hS;go_wp2;refine NoPanic.normal ?_;go_wp2;go_ret;exact⟨1,kr heq.out,rfl⟩
theorem PE(args:Array Value)(w:World):(callFunc 131 args).run Tryz.prog w=.ok (.enter 131 args) w:=by kernel_rfl
theorem Jf(r:Nat->Addr)(na:Option Addr)(nc:Nat)(G:List (List Int))(w:World)(hg:ck r w)(h:bh w (.slice na G.length nc) G)(gQ:∀k,k<G.length->(G.getD k []).length<=17592186044416)(fK:cH G=none)(bK:bR G)(hn:G.length<=8200):
 Calls Tryz.prog 85 #[.slice na G.length nc] w (jf (λx y w'=>y=.nilIface/\∃on:Nat->Bool,aZ 4 w.heap.size w' x (fY G.length on)/\∀v,v<G.length->(on v=true↔kj (aq G) v)) w):=by
 have hP:=EK r na nc G w hg h gQ;have hlg:=h.len 3 w;replace⟨h,bK,fK⟩:=dO h bK fK;go_enter Tryz.func85,Tryz.ntmps85;go_wp2_with fail;refine hP.mono ?_;rintro e w1 ⟨pv,y,rfl,b1,hE,sI,-⟩;rw[fK.out] at hE;obtain rfl:=hE.dG;obtain⟨ps,V7,ho⟩:=sI fK.out;have Kp:=V7.len;obtain⟨pa,pn,pc,rfl⟩:=ho.at.shape;have b1a:=ab w1 (.cells #[.slice pa pn pc] 22);obtain⟨W1,mq⟩:=Ey (w1.alloc (.cells #[.slice pa pn pc] 22));have R1:=(Rows.void w.heap.size w).add (i:=(2,0)) (r':=aD (.slice pa pn pc) ps) b1 ho (λk hk=>(ho.lt k hk).1);have JV:aZ 22 w1.heap.size (w1.alloc (.cells #[.slice pa pn pc] 22)) (.slice (some ⟨w1.heap.size,0,none⟩) 1 1) [.slice pa pn pc] :=
  World.ownsRow_lit (base:=w1.heap.size) (e:=22) (size:=1) w1 #[.slice pa pn pc] 1 (Nat.le_refl _) (by decide) rfl;have R2:=R1.add (i:=(3,0)) (r':=bY 22 (.slice (some ⟨w1.heap.size,0,none⟩) 1 1) [.slice pa pn pc]) b1a (JV.mono b1.size) (λk hk=>by cases hk;exact Nat.le_refl _);rw[<-mq] at R2 b1a;have Hi:=Below.step b1 b1a;obtain⟨ov,w2,mk,ou,ij⟩:=gS et (G.length:Int) G.length W1 rfl (by omega);obtain⟨oa,Pn,oc,rfl⟩:=ou.shape;rw[<-yP] at ou;have R3:=R2.add (i:=(1,0)) (r':=bY 4 (.slice oa Pn oc) (fY G.length λ_=>false)) ij (ou.mono Hi.size) (λk hk=>(ou.lt k hk).1);have KU:=Below.step Hi ij;have PZ:ch (ch (ch (λ_=>Option.none) (2,0) (some (aD (.slice pa pn pc) ps))) (3,0) (some (bY 22 (.slice (some ⟨w1.heap.size,0,none⟩) 1 1) [.slice pa pn pc]))) (1,0) (some (bY 4 (.slice oa Pn oc) (fY G.length λ_=>false))) (2,0)=some (aD (.slice pa pn pc) ps):=by rw[ad _ _ (by simp),ad _ _ (by simp),ah]
 have VX:ch (ch (ch (λ_=>Option.none) (2,0) (some (aD (.slice pa pn pc) ps))) (3,0) (some (bY 22 (.slice (some ⟨w1.heap.size,0,none⟩) 1 1) [.slice pa pn pc]))) (1,0) (some (bY 4 (.slice oa Pn oc) (fY G.length λ_=>false))) (3,0)=some (bY 22 (.slice (some ⟨w1.heap.size,0,none⟩) 1 1) [.slice pa pn pc]):=by rw[ad _ _ (by simp),ah]
 have CZ:ch (ch (ch (λ_=>Option.none) (2,0) (some (aD (.slice pa pn pc) ps))) (3,0) (some (bY 22 (.slice (some ⟨w1.heap.size,0,none⟩) 1 1) [.slice pa pn pc]))) (1,0) (some (bY 4 (.slice oa Pn oc) (fY G.length λ_=>false))) (1,0)=some (bY 4 (.slice oa Pn oc) (fY G.length λ_=>false)):=by rw[ah]
 generalize ch (ch (ch (λ_=>Option.none) (2,0) (some (aD (.slice pa pn pc) ps))) (3,0) (some (bY 22 (.slice (some ⟨w1.heap.size,0,none⟩) 1 1) [.slice pa pn pc]))) (1,0) (some (bY 4 (.slice oa Pn oc) (fY G.length λ_=>false)))=f1 at *;replace⟨PZ,VX,CZ,R3,V7,Kp⟩:=rr PZ VX CZ R3 V7 Kp;clear hE sI ho R1 R2 JV ou hP;go_upto_region 4 with fail;rw[<-mq];replace mq:=Hd mq;go_wp2_with fail;clear mk;go_loopw [22] (λkv wr=>∃(k:Nat) (F:Nat->Bool) (f:Names),k<=G.length/\kv=.int .i64 k/\Rows w.heap.size wr f/\Below w.heap.size w wr/\f (2,0)=some (aD (.slice pa pn pc) ps)/\f (3,0)=some (bY 22 (.slice (some ⟨w1.heap.size,0,none⟩) 1 1) [.slice pa pn pc])/\f (1,0)=some (bY 4 (.slice oa Pn oc) (fY G.length F))/\∀x,x<k->(F x=true↔kj (aq G) x)) (λkv _=>G.length-(intOf kv).toNat);case atStart=>exact⟨0,_,f1,Nat.zero_le _,rfl,R3.out,KU,PZ.out,VX.out,CZ.out,λx hx=>by omega⟩
 case round =>
  clear R3 PZ VX CZ;obtain⟨k,F,f2,hk,rfl,hR,hB,g2,g3,g1,hF⟩:=hrel;obtain⟨wo,rfl⟩:=Ey wr;by_cases aT:k<G.length
  .obtain⟨mv,iR,qK,rI⟩:=h.out.row k aT;have cR:=(hB.cell (World.block_lt_of_cell? _ _ qK)).trans qK;have hM:=rI.below hB;have oq:=bK.out k aT;have tS:=xp bK.out V7.out aT;have rM:aq G k=(G.getD k []).map Int.toNat:=rfl;rw[rM] at tS;generalize G.getD k []=gx at *;generalize af (.slice na G.length nc) k=ra at *;obtain⟨ma,mn,mc,rfl⟩:=hM.shape;have ba:=ab wo (.cells #[.int .i64 (k:Int)] 3);have cV:(wo.alloc (.cells #[.int .i64 (k:Int)] 3)).cell? ⟨wo.heap.size,0,none⟩=some (.int .i64 k):=by simp[go_sem]
   obtain⟨W,hW⟩:=Ey ((wo.alloc (.cells #[.int .i64 (k:Int)] 3)).drew);have bW:Below wo.heap.size wo W:=by rw[hW];exact ba.drew
   have cVW:W.cell? ⟨wo.heap.size,0,none⟩=some (.int .i64 k):=by rw[hW];exact cV
   have Ho:=hR.below bW;have hpW:=(Ho.aR g2).at;have hMW:=hM.below bW;have cP:W.cell? ⟨w1.heap.size,0,none⟩=some (.slice pa pn pc):=by
    have:=Ho.cell g3 (g:=w1.heap.size) (cap:=1) rfl 0 (by simp);simpa using this
   have ur:∀x:Int,x∈gx->∀n,Calls Tryz.prog 131 #[.int .i64 x,.pointer (some ⟨w1.heap.size,0,none⟩),.pointer (some ⟨wo.heap.size,0,none⟩)] (W.drewN n) (zk (decide (ps.getD x.toNat 0=ps.getD k 0)) (W.drewN n)):=λx hx n=>by
    obtain⟨p1,p2⟩:=oq x hx;obtain⟨t,rfl⟩:∃t:Nat,x=t:=Int.eq_ofNat_of_zero_le p1;rw[Int.toNat_natCast];exact Mv t k w1.heap.size wo.heap.size (.slice pa pn pc) ps (W.drewN n) (hpW.drewN n) cP cVW (by rw[Kp.out];omega) (by rw[Kp.out];exact aT)
   have RH:=xh (.slice ma mn mc) (.pointer (some ⟨w1.heap.size,0,none⟩)) (.pointer (some ⟨wo.heap.size,0,none⟩)) 131 gx (λx=>decide (ps.getD x.toNat 0=ps.getD k 0)) W hMW PE ur;obtain⟨bb,ZM⟩:=Ex (decide (0<=idxOf (λx=>decide (ps.getD x.toNat 0=ps.getD k 0)) gx));rw[ZM] at RH;have wU:∀x,x<k+1->(aN F k bb x=true↔kj (aq G) x):=λx hx=>by
    by_cases e:x=k
    .subst e;rw[ai,tS,<-ZM,decide_eq_true_iff,O6];constructor;.rintro⟨z,hz,hzp⟩;exact⟨z.toNat,List.mem_map.2 ⟨z,hz,rfl⟩,of_decide_eq_true hzp⟩
     .rintro⟨t,ht,Zk⟩;obtain⟨z,hz,rfl⟩:=List.mem_map.1 ht;exact⟨z,hz,decide_eq_true Zk⟩
    .rw[ag _ _ _ e];exact hF x (by omega)
   have hOV0:=Ho.ff g1;have iO:=λw'=>hOV0.at.idx et k (by rw[aW];exact aT) w';replace⟨ZM,wU,hF,RH,ur,tS,oq,rM⟩:=gp ZM wU hF RH ur tS oq rM;replace⟨hR,Ho,hOV0,hM,rI,hMW,hpW,g1⟩:=gp hR Ho hOV0 hM rI hMW hpW g1;replace⟨g2,g3⟩:=bD g2 g3;clear qK cP;go_upto_region 8 with fail;refine ar (λw'=>w'.cell? ⟨wo.heap.size,0,none⟩=some (.int .i64 k)) 6 [(0,true),(1,true),(2,true),(3,true),(4,false),(5,true)] (by kernel_rfl) (by kernel_rfl) ?_;rw[<-hW];replace hW:=Hd hW;have hS:W.cell? ⟨wo.heap.size,0,none⟩=some (.int .i64 k):=cVW;refine ay 27 hS ?_;refine ay 28 hS ?_;refine ay 29 hS ?_;refine ay 30 hS ?_;refine fZ rfl (λKK hK=>?_);go_simp;refine RH.out.mono ?_;rintro e w5 h5;obtain⟨n5,rfl,rfl⟩:=h5;have hS5:(W.drewN n5).cell? ⟨wo.heap.size,0,none⟩=some (.int .i64 k):=cVW;refine hK _ _ hS5 ?_;clear hK KK;refine ay 32 hS5 ?_;refine dA ?_;simp only[List.drop_succ_cons,List.drop_zero];clear hS hS5;have b5:Below wo.heap.size wo (W.drewN n5):=below_drewN bW n5;have qj:=Ho.out.drewN n5;have j5:=qj.ff g1.out;have cT:=j5.at.lp k (by rw[aW];exact aT);rw[kt _ _ _ aT] at cT;have fT:=j5.mQ k (by rw[aW];exact aT);have kT:=(j5.jP k (by rw[aW];exact aT)).2;have Vk:=qj.L4 g1.out k (by rw[aW];exact aT) (.bool bb);rw[rm] at Vk;have b6:Below w.heap.size w ((W.drewN n5).setCell (af (.slice oa Pn oc) k) (.bool bb)):=(hB.trans (b5.mono hB.size)).setCell kT _;generalize af (.slice oa Pn oc) k=ta at *;replace⟨qj,Vk,j5⟩:=dO qj Vk j5;clear iO;go_wp2;refine NoPanic.normal ?_;go_wp2;go_roundw;case measure=>simp[intOf];omega
   case rel=>exact⟨k+1,_,_,by omega,by go_num,Vk.out,b6,by rw[ad _ _ (by simp)];exact g2.out,by rw[ad _ _ (by simp)];exact g3.out,by rw[ah],wU.out⟩
  .obtain rfl:k=G.length:=by omega
   have iM:=hR.ff g1;replace⟨iM,hF,hR,g1,g2,g3⟩:=rr iM hF hR g1 g2 g3;go_wp2;go_ret2;exact⟨_,_,rfl,hB,rfl,F,iM.out,hF.out⟩
def GF(q:List Nat)(l:List Nat):List Nat:=l.foldl (λq t=>if t∈q then q else q++[t]) q
theorem TP(q:List Nat):GF q []=q:=rfl
theorem Ez(q l:List Nat)(t:Nat):GF q (l++[t])=if t∈GF q l then GF q l else GF q l++[t]:=by
 unfold GF;rw[List.foldl_append];rfl
def xl(adj:Nat->List Nat)(v:Nat):Nat->List Nat
 | 0=>[v]
 | i+1=>match (xl adj v i)[i]? with
  | some u=>GF (xl adj v i) (adj u)
  | none=>xl adj v i
theorem Pl{adj:Nat->List Nat}{v i u:Nat}(h:(xl adj v i)[i]?=some u):xl adj v (i+1)=GF (xl adj v i) (adj u):=by
 rw[xl,h]
def Fi(adj:Nat->List Nat)(P:Nat->Prop)(v u:Nat):Prop:=∃i,(xl adj v i)[i]?=some u/\P u/\∀j,j<i->∀x,(xl adj v j)[j]?=some x->¬ P x
def DQ(adj:Nat->List Nat)(P:Nat->Prop)(v:Nat)(q:List Nat)(i:Nat):Prop:=q=xl adj v i/\∀j,j<i->∀x,(xl adj v j)[j]?=some x->¬ P x
def qh(adj:Nat->List Nat)(P:Nat->Prop)(v:Nat)(q:List Nat)(i u j:Nat):Prop:=q=GF (xl adj v i) ((adj u).take j)/\(xl adj v i)[i]?=some u/\¬ P u/\∀j,j<i->∀x,(xl adj v j)[j]?=some x->¬ P x
theorem DQ.start(adj:Nat->List Nat)(P:Nat->Prop)(v:Nat):DQ adj P v [v] 0:=⟨rfl,λ_ h=>absurd h (Nat.not_lt_zero _)⟩
theorem DQ.HA{adj:Nat->List Nat}{P:Nat->Prop}{v:Nat}{q:List Nat}{i u:Nat}(h:DQ adj P v q i)(hu:q[i]?=some u)(hp:P u):Fi adj P v u:=⟨i,by rw[<-h.1];exact hu,hp,h.2⟩
theorem DQ.enter{adj:Nat->List Nat}{P:Nat->Prop}{v:Nat}{q:List Nat}{i u:Nat}(h:DQ adj P v q i)(hu:q[i]?=some u)(hp:¬ P u):qh adj P v q i u 0:=⟨by rw[List.take_zero,TP];exact h.1,by rw[<-h.1];exact hu,hp,h.2⟩
theorem qh.push{adj:Nat->List Nat}{P:Nat->Prop}{v:Nat}{q:List Nat}{i u j t:Nat}(h:qh adj P v q i u j)(ht:(adj u)[j]?=some t)(hq:t∉q):qh adj P v (q++[t]) i u (j+1):=by
 refine⟨?_,h.2⟩;rw[List.take_add_one,ht,Option.toList_some,Ez,<-h.1,if_neg hq]
theorem qh.lW{adj:Nat->List Nat}{P:Nat->Prop}{v:Nat}{q:List Nat}{i u j t:Nat}(h:qh adj P v q i u j)(ht:(adj u)[j]?=some t)(hq:t∈q):qh adj P v q i u (j+1):=by
 refine⟨?_,h.2⟩;rw[List.take_add_one,ht,Option.toList_some,Ez,<-h.1,if_pos hq]
theorem qh.leave{adj:Nat->List Nat}{P:Nat->Prop}{v:Nat}{q:List Nat}{i u:Nat}(h:qh adj P v q i u (adj u).length):DQ adj P v q (i+1):=by
 refine⟨?_,λj hj x hx=>?_⟩;.rw[Pl h.2.1,h.1,List.take_length]
 .by_cases e:j=i;.subst e;rw[h.2.1] at hx;obtain rfl:=Option.some.inj hx;exact h.2.2.1
  .exact h.2.2.2 j (by omega) x hx
structure vX (n:Nat) (adj:Nat->List Nat) (v:Nat) (on m:Nat->Bool) (q:List Nat) (i:Nat):Prop where
 nd:q.Nodup
 low:∀x∈q,x<n/\bH adj v x
 seen:∀x,x<n->(m x=true↔x∈q)
 st:v∈q
 dn:∀j x,j<i->q[j]?=some x->on x=false/\∀t∈adj x,t∈q
theorem vX.start{n:Nat}{adj:Nat->List Nat}{v:Nat}{on:Nat->Bool}(hv:v<n):vX n adj v on (aN (λ_=>false) v true) [v] 0 :=
 ⟨by simp,λx hx=>by rw[List.mem_singleton] at hx;subst hx;exact⟨hv,.refl _⟩,λx _=>by
   by_cases e:x=v;.subst e;simp[ai]
   .rw[ag _ _ _ e];simp[e],by simp,λj x h=>absurd h (Nat.not_lt_zero _)⟩
theorem vX.len{n:Nat}{adj:Nat->List Nat}{v:Nat}{on m:Nat->Bool}{q:List Nat}{i:Nat}(h:vX n adj v on m q i):q.length<=n:=eK n q h.nd λx hx=>(h.low x hx).1
theorem vX.push{n:Nat}{adj:Nat->List Nat}{v:Nat}{on m:Nat->Bool}{q:List Nat}{i u t:Nat}(h:vX n adj v on m q i)(hu:u∈q)(ht:t∈adj u)(gY:t<n)(hm:m t=false)(hi:i<=q.length):vX n adj v on (aN m t true) (q++[t]) i:=by
 have hnt:t∉q:=λe=>by have:=(h.seen t gY).2 e;rw[hm] at this;cases this
 refine⟨List.nodup_append.2 ⟨h.nd,by simp,λa ha b hb e=>by rw[List.mem_singleton] at hb;subst hb;subst e;exact hnt ha⟩,λx hx=>?_,λx hx=>?_,List.mem_append_left _ h.st,λj x hj hx=>?_⟩
 .rcases List.mem_append.1 hx with hx | hx;.exact h.low x hx
  .rw[List.mem_singleton] at hx;subst hx;exact⟨gY,(h.low u hu).2.step ht⟩
 .rw[List.mem_append,List.mem_singleton];by_cases e:x=t;.subst e;simp[ai]
  .rw[ag _ _ _ e,h.seen x hx];simp[e]
 .rw[List.getElem?_append_left (by omega)] at hx;obtain⟨h1,h2⟩:=h.dn j x hj hx;exact⟨h1,λs hs=>List.mem_append_left _ (h2 s hs)⟩
theorem vX.next{n:Nat}{adj:Nat->List Nat}{v:Nat}{on m:Nat->Bool}{q:List Nat}{i u:Nat}(h:vX n adj v on m q i)(hu:q[i]?=some u)(ho:on u=false)(ha:∀t∈adj u,t∈q):vX n adj v on m q (i+1) :=
 ⟨h.nd,h.low,h.seen,h.st,λj x hj hx=>by
   by_cases e:j=i;.subst e;rw[hu] at hx;cases hx;exact⟨ho,ha⟩
   .exact h.dn j x (by omega) hx⟩
theorem vX.stop{n:Nat}{adj:Nat->List Nat}{v:Nat}{on m:Nat->Bool}{q:List Nat}(h:vX n adj v on m q q.length){u:Nat}(ho:on u=true)(hg:bH adj v u):False:=by
 have hc:u∈q:=bH.closed (P:=λx=>x∈q) (λx hx t ht=>by
  obtain⟨j,hj,e⟩:=List.mem_iff_getElem.1 hx;exact(h.dn j x hj (by rw[List.getElem?_eq_getElem hj,e])).2 t ht) hg h.st;obtain⟨j,hj,e⟩:=List.mem_iff_getElem.1 hc;have:=(h.dn j u hj (by rw[List.getElem?_eq_getElem hj,e])).1;rw[ho] at this;cases this
structure NB (f:Names) (sv qv:Value) (n:Nat) (m:Nat->Bool) (q:List Nat):Prop where
 outs:f (1,0)=some (bY 4 sv (fY n m))
 queue:f (2,0)=some (aD qv (aw q))
section
variable {B:Nat} {w:World} {f:Names} {ov qv:Value} {n:Nat} {m:Nat->Bool} {q:List Nat}
theorem NB.mark(h:NB f ov qv n m q)(hr:Rows B w f)(t:Nat)(ht:t<n):∃f',Rows B (w.setCell (af ov t) (.bool true)) f'/\NB f' ov qv n (aN m t true) q:=by
 have hs:=hr.L4 h.outs t (by rw[aW];exact ht) (.bool true);rw[rm] at hs;exact⟨_,hs,⟨ah _ _ _,by rw[ad _ _ (by simp)];exact h.queue⟩⟩
theorem NB.push(h:NB f ov qv n m q)(hr:Rows B w f){w1:World}{mi:Value}(t:Nat)(ho:aj B w1 mi (aw q++[(t:Int)]))(hJ:(dJ mi=dJ qv/\w.grownBy w1 qv.ownBlock)\/(∃k,mi.ownBlock=some k/\w.heap.size<=k/\w.grownBy w1 none)):∃f',Rows B w1 f'/\NB f' ov mi n m (q++[t]):=by
 have hO:=hr.aR h.queue;have hg:w.grownBy w1 qv.ownBlock:=jr (hJ.imp (·.2) (λ⟨_,_,_,q⟩=>q));have uw:mi.ownBlock=qv.ownBlock\/∃k,mi.ownBlock=some k/\w.heap.size<=k:=by
  rcases hJ with ⟨q,_⟩ | ⟨k,h1,h2,_⟩;.obtain⟨a1,n1,c1,e1⟩:=hO.at.shape;obtain⟨a2,n2,c2,e2⟩:=ho.at.shape;exact .inl (cM e1 e2 q)
  .exact .inr ⟨k,h1,h2⟩
 exact⟨_,hr.grown (r':=aD mi (aw q++[(t:Int)])) h.queue hg ho uw,⟨by rw[ad _ _ (by simp)];exact h.outs,by rw[ah,jS]⟩⟩
end
theorem Kh(na:Option Addr)(nc:Nat)(G:List (List Int))(bv:Value)(on:Nat->Bool)(v:Nat)(w:World)(h:bh w (.slice na G.length nc) G)(bK:bR G)(hn:G.length<=8200)(hb:aY w bv (fY G.length on))(hv:v<G.length)(hex:∃u,on u=true/\bH (aq G) v u)(P:Nat->Prop)(hP:∀x,x<G.length->(on x=true↔P x)):
 Calls Tryz.prog 86 #[.slice na G.length nc,bv,.int .i64 v] w (cz (λx _=>∃u,x=.int .i64 ((u:Nat):Int)/\u<G.length/\on u=true/\bH (aq G) v u/\Fi (aq G) P v u) w):=by
 obtain⟨sv,w1,mk,ou,kZ⟩:=gS et (G.length:Int) G.length w rfl (by omega);obtain⟨sa,sn,sc,rfl⟩:=ou.shape;rw[<-yP] at ou;have R1:=(Rows.void w.heap.size w).add (i:=(1,0)) (r':=bY 4 (.slice sa sn sc) (fY G.length λ_=>false)) kZ ou (λk hk=>(ou.lt k hk).1);have j5:=R1.ff (ah _ _ _);have iV:=λw'=>j5.at.idx et v (by rw[aW];exact hv) w';have cV:=j5.at.lp v (by rw[aW];exact hv);have fV:=j5.mQ v (by rw[aW];exact hv);have kV:=(j5.jP v (by rw[aW];exact hv)).2;rw[kt _ _ _ hv] at cV;have R2:=R1.L4 (ah _ _ _) v (by rw[aW];exact hv) (.bool true);rw[rm] at R2;have b2:Below w.heap.size w (w1.setCell (af (.slice sa sn sc) v) (.bool true)):=kZ.setCell kV _;generalize af (.slice sa sn sc) v=va at *;obtain⟨W2,dZ⟩:=Ey (w1.setCell va (.bool true));rw[<-dZ] at R2 b2;have mo:=b2.size;have bL:=ab W2 (.cells #[.int .i64 (v:Int)] 3);have R3:=R2.add (i:=(2,0)) (r':=aD (.slice (some ⟨W2.heap.size,0,none⟩) 1 1) (aw [v])) bL (aj.lit w.heap.size W2 mo (aw [v]) (by simp[maxLen,aw]) #[.int .i64 (v:Int)] rfl 1 rfl) (λk hk=>by cases hk;exact Nat.le_refl _);have h3:NB (ch (ch (ch (λ_=>Option.none) (1,0) (some (bY 4 (.slice sa sn sc) (fY G.length λ_=>false)))) (1,0) (some (bY 4 (.slice sa sn sc) (fY G.length (aN (λ_=>false) v true))))) (2,0) (some (aD (.slice (some ⟨W2.heap.size,0,none⟩) 1 1) (aw [v])))) (.slice sa sn sc) (.slice (some ⟨W2.heap.size,0,none⟩) 1 1) G.length (aN (λ_=>false) v true) [v]:=⟨by rw[ad _ _ (by simp),ah],by rw[ah]⟩;generalize ch (ch (ch (λ_=>Option.none) (1,0) (some (bY 4 (.slice sa sn sc) (fY G.length λ_=>false)))) (1,0) (some (bY 4 (.slice sa sn sc) (fY G.length (aN (λ_=>false) v true))))) (2,0) (some (aD (.slice (some ⟨W2.heap.size,0,none⟩) 1 1) (aw [v])))=f3 at *;have b3:=b2.trans (bL.mono mo);replace⟨hex,hP,h,bK,hb,R3,h3,dZ⟩:=gp hex hP h bK hb R3 h3 dZ;have hlg:=h.out.len 3 w;clear R1 R2 j5 ou;go_enter Tryz.func86,Tryz.ntmps86;go_upto_region 3 with fail;rw[<-dZ.out];clear mk iV cV fV;go_wp2_with fail;go_loopw [8,9] (λqv iv wr=>∃(i:Nat) (m:Nat->Bool) (q:List Nat) (f:Names) (qw:Value),qw=qv/\iv=.int .i64 i/\i<=q.length/\Rows w.heap.size wr f/\Below w.heap.size w wr/\NB f (.slice sa sn sc) qw G.length m q/\vX G.length (aq G) v on m q i/\DQ (aq G) P v q i) (λ_ iv _=>G.length-(intOf iv).toNat);case atStart=>exact⟨0,_,_,f3,_,rfl,rfl,Nat.zero_le _,R3.out,b3,h3.out,vX.start hv,DQ.start _ _ _⟩
 case round =>
  clear h3 R3 b3;obtain⟨i,m,q,f4,qv,rfl,rfl,hi,lV,b4,h4,hI,hN⟩:=hrel;obtain⟨wo,rfl⟩:=Ey wr;have OQ:=hI.len;have j7:=lV.aR h4.queue;have lQ:=j7.at.len;rw[aA] at lQ;by_cases jM:i<q.length;.obtain⟨u,hu⟩:∃u,q[i]?=some u:=⟨_,List.getElem?_eq_getElem jM⟩;have Oc:=List.mem_of_getElem? hu;obtain⟨nH,hug⟩:=hI.low u Oc;have iQ:=λw'=>j7.at.idx i (by rw[aA];exact jM) w';have cQ:=j7.at.aH i (by rw[aA];exact jM);rw[j3 hu] at cQ;have Nu:=hb.out.below b4;have iB:=λw'=>Nu.idx et u (by rw[aW];exact nH) w';have cB:=Nu.lp u (by rw[aW];exact nH);rw[kt _ _ _ nH] at cB;generalize af qv i=qa at *;generalize af bv u=ba at *;obtain⟨bo,Gn⟩:=Ex (on u);rw[Gn] at cB;replace⟨j7,Nu⟩:=bD j7 Nu;cases bo with
   | true =>
    have hnr:=hN.HA hu ((hP.out u nH).1 Gn);replace⟨hnr,hN,hI,lV,hu,Oc,Gn,hug⟩:=gp hnr hN hI lV hu Oc Gn hug;go_wp2;go_ret;exact⟨_,rfl,b4,u,rfl,nH,Gn.out,hug.out,hnr.out⟩
   | false =>
    have WJ:=hN.enter hu (λe=>by have:=(hP.out u nH).2 e;rw[Gn] at this;cases this);replace⟨WJ,hN⟩:=bD WJ hN;obtain⟨xv,iR,qK,rI⟩:=h.out.row u nH;have cR:=(b4.cell (World.block_lt_of_cell? _ _ qK)).trans qK;have hM:=rI.below b4;have oq:=bK.out u nH;have rM:aq G u=(G.getD u []).map Int.toNat:=rfl;generalize G.getD u []=gx at *;have lM:=hM.len;have sk:=hM.gN;generalize af (.slice na G.length nc) u=ra at *;replace⟨hM,rI,oq,rM,hI,lV,hu,Oc⟩:=gp hM rI oq rM hI lV hu Oc;replace⟨Gn,hug⟩:=bD Gn hug;have td:=Hd jM;go_wp2_with fail;clear iQ cQ iB cB iR cR lM lQ;go_loopw [8,41] (λqv jv wr=>∃(j:Nat) (m:Nat->Bool) (q:List Nat) (f:Names) (qw:Value),qw=qv/\jv=.int .i64 j/\j<=gx.length/\Rows w.heap.size wr f/\Below w.heap.size w wr/\NB f (.slice sa sn sc) qw G.length m q/\vX G.length (aq G) v on m q i/\q[i]?=some u/\(∀s,s<j->(gx.getD s 0).toNat∈q)/\qh (aq G) P v q i u j) (λ_ jv _=>gx.length-(intOf jv).toNat);case atStart=>exact⟨0,m,q,f4,_,rfl,rfl,by omega,lV.out,b4,h4,hI.out,hu.out,(λs hs=>by omega),WJ.out⟩
    case round =>
     clear lV h4 b4 hI hu Oc hi jM td OQ j7 Nu hM hN WJ;obtain⟨j,m,q,f5,qv,rfl,rfl,hj,lK,b5,h5,hI,hu,kd,VT⟩:=hrel;obtain⟨wo,rfl⟩:=Ey wr;have Oc:=List.mem_of_getElem? hu;have jM:i<q.length:=(List.getElem?_eq_some_iff.1 hu).1;have OQ:=hI.len;by_cases dw:j<gx.length
     .have vt:=rI.out.below b5;have vg:=oq.out gx[j] (List.getElem_mem dw);obtain⟨t,yx⟩:∃t:Nat,gx[j]=t:=Int.eq_ofNat_of_zero_le vg.1;have gY:t<G.length:=by rw[yx] at vg;omega
      have jZ:gx.getD j 0=(t:Int):=by rw[List.getD_eq_getElem?_getD,List.getElem?_eq_getElem dw,yx];rfl
      have Be:t∈aq G u:=by
       rw[rM.out];exact List.mem_map.2 ⟨gx[j],List.getElem_mem dw,by rw[yx];rfl⟩
      have VI:(aq G u)[j]?=some t:=by
       rw[rM.out,List.getElem?_map,List.getElem?_eq_getElem dw,yx];rfl
      have iJ:=λw'=>vt.idx j dw w';have cJ:=vt.aH j dw;rw[jZ] at cJ;have j5:=(lK.ff h5.outs);have iT:=λw'=>j5.at.idx et t (by rw[aW];exact gY) w';have cT:=j5.at.lp t (by rw[aW];exact gY);rw[kt _ _ _ gY] at cT;have fT:=j5.mQ t (by rw[aW];exact gY);have kT:=(j5.jP t (by rw[aW];exact gY)).2;obtain⟨f6,uN,h6⟩:=h5.mark lK t gY;have b6:Below w.heap.size w (wo.setCell (af (.slice sa sn sc) t) (.bool true)):=b5.setCell kT _;generalize af xv j=ja at *;generalize af (.slice sa sn sc) t=ta at *;obtain⟨bt,J3⟩:=Ex (m t);rw[J3] at cT;cases bt with
      | false =>
       have Cd:=hI.push Oc Be gY J3 (by omega);have SZ:=VT.push VI (λe=>by have:=(hI.seen t gY).2 e;rw[J3] at this;cases this);replace⟨SZ,VT,VI⟩:=dO SZ VT VI;have hu3:(q++[t])[i]?=some u:=by rw[List.getElem?_append_left jM];exact hu
       have k6:∀s,s<j+1->(gx.getD s 0).toNat∈q++[t]:=λs hs=>by
        by_cases e:s=j;.subst e;rw[jZ];simp
        .exact List.mem_append_left _ (kd s (by omega))
       replace⟨Cd,hu3,k6,kd,hI,J3,lK,uN⟩:=gp Cd hu3 k6 kd hI J3 lK uN;replace⟨j5,vt,jZ,vg,yx,hu,Oc,Be⟩:=gp j5 vt jZ vg yx hu Oc Be;go_upto_region 15 with fail;obtain⟨W6,yq⟩:=Ey (wo.setCell ta (.bool true));rw[<-yq];rw[<-yq] at uN b6;clear yq iJ cJ iT cT fT;have j7:=uN.out.aR h6.queue;have Ky:w.heap.size<=W6.heap.size:=b6.size;go_wp2_with (at_builtin;refine dD rfl _ _ rfl w.heap.size qv (aw q) t j7 rfl rfl (by rw[aA];omega) Ky ?_);intro mi w7 eF b7 gn;obtain⟨f7,pf,h7⟩:=h6.push uN.out t eF gn;replace⟨pf,eF⟩:=bD pf eF;clear gn;go_wp2;go_roundw;case measure=>simp[intOf];omega
       case rel=>exact⟨j+1,aN m t true,q++[t],f7,mi,rfl,by go_num,by omega,pf.out,b6.trans b7,h7,Cd.out,hu3.out,k6.out,SZ.out⟩
      | true =>
       have SZ:=VT.lW VI ((hI.seen t gY).1 J3);replace⟨SZ,VT,VI⟩:=dO SZ VT VI;have k6:∀s,s<j+1->(gx.getD s 0).toNat∈q:=λs hs=>by
        by_cases e:s=j;.subst e;rw[jZ];exact(hI.seen t gY).1 J3
        .exact kd s (by omega)
       replace⟨k6,kd,hI,J3,lK,uN,j5,vt⟩:=gp k6 kd hI J3 lK uN j5 vt;replace⟨jZ,vg,yx,hu,Oc,Be⟩:=rr jZ vg yx hu Oc Be;go_wp2;go_roundw;case measure=>simp[intOf];omega
       case rel=>exact⟨j+1,m,q,f5,qv,rfl,by go_num,by omega,lK.out,b5,h5,hI.out,hu.out,k6.out,SZ.out⟩
     .obtain rfl:j=gx.length:=by omega
      have aX:=hI.next hu Gn.out (λt ht=>by
       rw[rM.out] at ht;obtain⟨x,hx,rfl⟩:=List.mem_map.1 ht;obtain⟨s,hs,rfl⟩:=List.mem_iff_getElem.1 hx;have:=kd s hs;rw[List.getD_eq_getElem?_getD,List.getElem?_eq_getElem hs] at this;exact this);have xK:DQ (aq G) P v q (i+1):=by
       have hl:gx.length=(aq G u).length:=by rw[rM.out,List.length_map]
       rw[hl] at VT;exact VT.leave
      replace⟨xK,VT,aX,kd,hI,lK,hu,Oc⟩:=gp xK VT aX kd hI lK hu Oc;go_wp2;go_roundw;case measure=>simp[intOf];omega
      case rel=>exact⟨i+1,m,q,f5,qv,rfl,by go_num,by omega,lK.out,b5,h5,aX.out,xK.out⟩
  .obtain rfl:i=q.length:=by omega
   obtain⟨u,ho,hg⟩:=hex.out;exact absurd hg (λhg=>hI.stop ho hg)
def JF(k:Nat)(F:Nat->List Int)(l:List Int):Nat->List Int:=l.foldl (λF x=>aN F x.toNat (F x.toNat++[(k:Int)])) F
theorem PV(k:Nat)(F:Nat->List Int)(l:List Int)(u:Nat):aN (JF k F l) u (JF k F l u++[(k:Int)])=JF k F (l++[(u:Int)]):=by
 unfold JF;rw[List.foldl_append];rfl
def Qb(G:List (List Int)):Nat->Nat->List Int
 | 0=>λ_=>[]
 | k+1=>JF k (Qb G k) (G.getD k [])
def E2(G:List (List Int)):List (List Int):=rowsOf G.length (Qb G G.length)
theorem GD(na:Option Addr)(nc:Nat)(G:List (List Int))(w:World)(h:bh w (.slice na G.length nc) G)(bK:bR G)(hn:G.length<=8200)(sG:aU G G.length<=262144):
 Calls Tryz.prog 87 #[.slice na G.length nc] w (cz (λx w'=>kx G (E2 G)/\bh w' x (E2 G)) w):=by
 obtain⟨ov,w1,mk,ho,kZ⟩:=gS dL (G.length:Int) G.length w rfl (by omega);obtain⟨f1,dX,h1⟩:=WN.made G.length kZ (Nat.le_refl _) ho;obtain⟨oa,on,oc,rfl⟩:=ho.shape;have hlen:∀k,k<G.length->(G.getD k []).length<=262144:=λk hk=>by
  have:=fi G (show k+1<=G.length by omega);simp only[aU] at this;omega
 replace⟨h,bK,dX,ho,hlen⟩:=mV h bK dX ho hlen;go_enter Tryz.func87,Tryz.ntmps87;go_wp2_with fail;clear mk;go_loopw [13] (λkv wr=>∃(k:Nat) (F:Nat->List Int) (f:Names) (br:List Value),k<=G.length/\kv=.int .i64 k/\Rows w.heap.size wr f/\Below w.heap.size w wr/\WN f (.slice oa on oc) br G.length F/\eh G k 0 F/\F=Qb G k) (λkv _=>G.length-(intOf kv).toNat);case atStart=>exact⟨0,_,f1,_,by omega,rfl,dX.out,kZ,h1,eh.zero G,rfl⟩
 case round =>
  clear h1 ho dX;obtain⟨k,F,f2,br,hk,rfl,dI,b2,h2,hB,hFk⟩:=hrel;obtain⟨wo,rfl⟩:=Ey wr;by_cases aT:k<G.length
  .obtain⟨mv,iR,qK,rI⟩:=h.out.row k aT;have cR:=(b2.cell (World.block_lt_of_cell? _ _ qK)).trans qK;clear qK;have hM:=rI.below b2;have jI:=hlen.out k aT;have oq:=bK.out k aT;have tu:=λ(j u:Nat) (F:Nat->List Int) (h:eh G k j F)=>h.add (u:=u);have oM:=λ(F:Nat->List Int) (h:eh G k (G.getD k []).length F)=>h.next;have uf:=λ(j t:Nat) (F:Nat->List Int) (h:eh G k j F) (ht:t<G.length)=>(h t ht).1;have ZU:=fi G hk;have qL:Qb G (k+1)=JF k (Qb G k) (G.getD k []):=rfl;rw[<-hFk] at qL;generalize KA:F=F0 at qL;replace⟨KA,hFk⟩:=bD KA hFk;generalize G.getD k []=gk at *;have lM:=hM.len;generalize af (.slice na G.length nc) k=ra at *;replace⟨qL,hB,tu,oM,uf,oq,dI,hM⟩:=gp qL hB tu oM uf oq dI hM;replace rI:=Hd rI;go_wp2_with fail;clear iR cR lM;go_loopw [20] (λjv wr=>∃(j:Nat) (F:Nat->List Int) (f:Names) (br:List Value),j<=gk.length/\jv=.int .i64 j/\Rows w.heap.size wr f/\Below w.heap.size w wr/\WN f (.slice oa on oc) br G.length F/\eh G k j F/\F=JF k F0 (gk.take j)) (λjv _=>gk.length-(intOf jv).toNat);case atStart=>exact⟨0,F,f2,br,by omega,rfl,dI.out,b2,h2,hB.out,by rw[List.take_zero];exact KA.out⟩
   case round =>
    clear hB dI h2 b2 hM KA hFk;obtain⟨j,F,f3,br,hj,rfl,dP,b3,h3,hB,hFj⟩:=hrel;obtain⟨wo,rfl⟩:=Ey wr;by_cases dw:j<gk.length
    .have vt:=rI.out.below b3;have vg:=oq.out gk[j] (List.getElem_mem dw);obtain⟨u,hu⟩:∃u:Nat,gk[j]=u:=Int.eq_ofNat_of_zero_le vg.1;have nH:u<G.length:=by rw[hu] at vg;omega
     have EN:gk[j]?=some (u:Int):=by rw[List.getElem?_eq_getElem dw,hu]
     have jZ:gk.getD j 0=(u:Int):=by rw[List.getD_eq_getElem?_getD,EN];rfl
     have iJ:=λw'=>vt.idx j dw w';have cJ:=vt.aH j dw;rw[jZ] at cJ;have ks:=tu.out j u F hB EN;have wU:aN F u (F u++[(k:Int)])=JF k F0 (gk.take (j+1)):=by
      rw[List.take_add_one,EN,Option.toList_some,<-PV,<-hFj]
     replace⟨wU,hFj⟩:=bD wU hFj;have Dr:=uf.out j u F hB nH;have j5:=(dP.ff h3.outer).at;have iO:=λw'=>j5.idx dL u (by rw[h3.len];exact nH) w';have cO:=j5.lp u (by rw[h3.len];exact nH);have hT:=dP.aR (h3.rows u nH);have tz:=λ(w1:World) (v':Value)=>h3.app dP nH (w1:=w1) (v':=v') (k:Int);have oz:=λ(w1:World) (v':Value) (xs:List Int)=>h3.put (B:=w.heap.size) (w1:=w1) nH (v':=v') (xs:=xs);have sS:w.heap.size<=wo.heap.size:=b3.size;generalize af mv j=ja at *;generalize oZ br u=tv at *;generalize af (.slice oa on oc) u=ua at *;replace⟨ks,tz,oz,hB,dP,j5,EN,jZ⟩:=gp ks tz oz hB dP j5 EN jZ;replace⟨hu,vg⟩:=bD hu vg;go_wp2_with (at_builtin;refine dD rfl _ _ rfl w.heap.size tv (F u) k hT rfl rfl (by omega) sS ?_);intro v' w7 eF b7 gn;have zQ:=tz.out w7 v' eF gn;obtain⟨y1,y2,y3,f8,nC,h8,_⟩:=oz.out w7 v' _ zQ;obtain⟨va,vn,vc,rfl⟩:=eF.at.shape;replace⟨nC,eF,zQ⟩:=dO nC eF zQ;clear gn hT iJ cJ cO;go_wp2;go_roundw;case measure=>simp[intOf];omega
     case rel=>exact⟨j+1,_,f8,_,by omega,by go_num,nC.out,(b3.trans b7).setCell y3 _,h8,ks.out,wU.out⟩
    .obtain rfl:j=gk.length:=by omega
     have jD:=oM.out F hB;have wU:=@Hd (F=Qb G (k+1)) (by rw[qL.out,hFj,List.take_length]);replace⟨hFj,jD,hB,dP⟩:=gF hFj jD hB dP;go_wp2;go_roundw;case measure=>simp[intOf];omega
     case rel=>exact⟨k+1,F,f3,br,by omega,by go_num,dP.out,b3,h3,jD.out,wU.out⟩
  .obtain rfl:k=G.length:=by omega
   have hT:=hB.KJ;have hL:=h2.lists dI;have heq:rowsOf G.length F=E2 G:=by rw[hFk];rfl
   rw[heq] at hT hL;replace⟨heq,hFk,hB,hT,hL,dI⟩:=rr heq hFk hB hT hL dI;go_wp2;go_ret;exact⟨_,rfl,b2,hT.out,hL.out⟩
def yE(r:Nat->Addr)(w:World)(K R:Nat)(T:List Int)(ns:List Nat)(x y z:Value)(w':World):Prop :=
 (wQ K (pw K (2*R)) T ns/\z=.nilIface/\aj w.heap.size w' x (dF K (2*R) (·/pw K (2*R)) ns)/\aj w.heap.size w' y (dF K (2*R) (·%pw K (2*R)) ns)/\(x.ownBlock=none\/x.ownBlock≠y.ownBlock)) \/
 (¬ wQ K (pw K (2*R)) T ns/\x=.slice none 0 0/\y=.slice none 0 0/\bf r w' (fresh l6 1 3) z)
theorem Mp(r:Nat->Addr)(K R:Nat)(va:Option Addr)(vn vc:Nat)(T:List Int)(u:Value)(ns:List Nat)(w:World)(hg:ck r w)(h:ae w (.slice va vn vc) T)(hr:aG K R T)(hl:T.length<=256)(hu:ae w u (aw ns))(bM:ns≠[])(jA:∀p∈ns,p<pw K (2*fW R)*pw K (2*fW R))(xK:ns.length<=17592186044000):
 Calls Tryz.prog 46 #[.agg #[.int .i64 K,.int .i64 R,.slice va vn vc],u] w (vf (yE r w K (fW R) (lJ K R T) ns) w):=by
 have b0:=ab w (.cells #[.int .i64 K,.int .i64 R,.slice va vn vc] 24);have dS:=hr.k1;have fs:=hr.k4;have oI:=zw hr;have NO:=qZ hr hl;have Ho:=tW R;have jo:=nB oI Ho NO;obtain⟨hdiv,hlen⟩:=oI.half;have kK:=oI.r3;have pC:=eN (K:=K) (2*fW R) dS;have l9:=λ(w':World) (jI:ck r w') (hT:ae w' (.slice va vn vc) T)=>wP r K R va vn vc T w' jI hT hr hl;have ld:=λ(a:Option Addr) (n c:Nat) (w':World) (jI:ck r w') (hT:ae w' (.slice a n c) (lJ K R T))=>rS r K (fW R) a n c (lJ K R T) w' jI hT oI NO;have uh:=λ(a:Option Addr) (n c u s:Nat) (w':World) (jI:ck r w') (hT:ae w' (.slice a n c) (lJ K R T)) (hu:u<pw K (2*fW R)) (hs:s<K)=>zh r K (fW R) a n c (lJ K R T) u s w' jI hT oI NO (by rw[hdiv];exact hu) hs;rw[hdiv] at ld uh;have J9:=λ(x y z:Value) (w':World)=>@yE r w K (fW R) (lJ K R T) ns x y z w';obtain⟨m,hm⟩:=Ex (2*fW R);unfold yE;rw[hm] at ld uh jA jo pC hdiv hlen ⊢;obtain⟨N,hN⟩:=Ex (pw K m);rw[hN] at ld uh jA jo pC hdiv hlen ⊢;generalize lJ K R T=T' at *;generalize fW R=R' at *;clear J9;have lu:=hu.len;obtain⟨up,hup,O3⟩:=hu.post 1 (by rw[aA];exact List.length_pos_iff.2 bM);have lup:=O3.len;have ur:(aw ns).length=ns.length:=aA ns;have oQ:((aw ns).drop 1).length=ns.length-1:=by rw[List.length_drop,aA]
 rw[oQ] at lup;rw[ur] at lu;have SZ:0<ns.length:=List.length_pos_iff.2 bM;have iU:=λ(i:Nat) (hi:i<ns.length) w'=>hu.idx i (by rw[aA];exact hi) w';have cU:=λ(i:Nat) (hi:i<ns.length)=>hu.aH i (by rw[aA];exact hi);have iP:=λ(i:Nat) (hi:i+1<ns.length) w'=>O3.idx i (by rw[oQ];omega) w';have cP:=λ(i:Nat) (hi:i+1<ns.length)=>O3.aH i (by rw[oQ];omega);have gU:∀i,i<ns.length->(aw ns).getD i 0=((ns.getD i 0:Nat):Int):=λi hi=>by simp[aw,List.getD,hi]
 have gP:∀i,i+1<ns.length->((aw ns).drop 1).getD i 0=((ns.getD (i+1) 0:Nat):Int):=λi hi=>by
  rw[List.getD_eq_getElem?_getD,List.getElem?_drop,Nat.add_comm 1 i,<-List.getD_eq_getElem?_getD];exact gU _ hi
 have cU2:=λ(i:Nat) (hi:i<ns.length)=>(cU i hi).trans (by rw[gU i hi]);have cP2:=λ(i:Nat) (hi:i+1<ns.length)=>(cP i hi).trans (by rw[gP i hi]);have Js:∀i,i<ns.length->ns.getD i 0<N*N:=λi hi=>by
  simp only[List.getD_eq_getElem?_getD,List.getElem?_eq_getElem hi,Option.getD_some];exact jA _ (List.getElem_mem hi)
 have Hu:N*N<=6561:=Nat.mul_le_mul jo jo;have LD:decide (0<=idxOf (lR ((N*N:Nat):Int)) (aw ns))=false:=by
  rw[decide_eq_false_iff_not,ob];.omega
  .intro x hx;obtain⟨p,hp,rfl⟩:=List.mem_map.1 hx;have:=jA p hp;rw[rG];omega
 have hl0:¬ ns.length=0:=by omega
 have hl1:((ns.length:Int)==0)=false:=by rw[beq_eq_false_iff_ne];omega
 obtain⟨ua,un,uc,rfl⟩:=hu.shape;obtain⟨pa,pn,pc,rfl⟩:=O3.shape;replace⟨l9,ld,uh⟩:=dO l9 ld uh;replace hg:=Hd (hg.below b0);replace h:=Hd (h.below b0);replace hu:=Hd (hu.below b0);replace⟨oI,hr,hdiv,hlen,hm,hN,iU,iP⟩:=gp oI hr hdiv hlen hm hN iU iP;replace⟨cU2,cP2,Js,jA,LD,bM,O3⟩:=zb cU2 cP2 Js jA LD bM O3;clear cU cP gU gP oQ ur;go_enter Tryz.func46,Tryz.ntmps46;go_wp2_with fail;refine(l9.out _ hg.out h.out).mono ?_;rintro e w1 ⟨x,y,rfl,b1,rfl,a,n,c,rfl,Oj⟩;have ba:=ab w1 (.cells #[.int .i64 K,.int .i64 R',.slice a n c] 24);have qw:az (w1.alloc (.cells #[.int .i64 K,.int .i64 R',.slice a n c] 24)) w1.heap.size (.int .i64 K) (.int .i64 R') (.slice a n c):=by simp[az,go_sem]
 have mw:=Below.step b1 ba;have Ej:=Oj.below ba;replace⟨Oj,Ej,qw⟩:=dO Oj Ej qw;go_wp2_with fail;refine(ld.out a n c _ (hg.out.below mw) Ej.out).mono ?_;rintro e w3 ⟨x,y,rfl,b3,rfl,rfl⟩;have bb:=ab w3 (.cells #[.int .i64 N] 3);have Ng:=Below.step b3 bb;have um:=Below.step mw Ng;have cN:(w3.alloc (.cells #[.int .i64 N] 3)).cell? ⟨w3.heap.size,0,none⟩=some (.int .i64 N):=by simp[go_sem]
 have RH:=q8 (.slice ua un uc) (.pointer (some ⟨w3.heap.size,0,none⟩)) 96 (aw ns) (lR ((N*N:Nat):Int)) _ (hu.out.below um) Pg (λx _=>My x w3.heap.size N _ (by omega) cN);replace⟨RH,cN⟩:=bD RH cN;go_wp2_with fail;refine RH.out.mono ?_;rintro e w5 ⟨rfl,hw5⟩;rw[LD.out];have cN5:=cN.out;have qw5:=qw.out.below Ng;have VZ:=Ej.out.below Ng;rw[hw5] at um cN5 qw5 VZ;clear RH cN hw5 bb Ng b3 mw;have SU:=Below.step b0 um;have Lm:=hg.out.below um;clear um
 -- region 8
 obtain⟨L1,hL1⟩:∃L1,ns.length=L1+1:=⟨ns.length-1,by omega⟩;rw[hL1,Nat.add_sub_cancel] at lup;have hLbig:L1<=17592186044000:=by omega
 have hup1:∀w',(Instr.slice 22 (.slice ua un uc) (some (.int .i64 1)) none none).run Tryz.prog w'=.ok (.slice pa pn pc) w':=hup;obtain⟨p0,hp0⟩:=Ex (ns.getD 0 0);have hp0l:p0<N*N:=by rw[<-hp0];exact Js.out 0 SZ
 have i0:∀w',(Instr.indexAt 22 (.slice ua un uc) (.int .i64 0)).run Tryz.prog w'=.ok (.pointer (some (af (.slice ua un uc) 0))) w':=λw'=>iU.out 0 SZ w';have c0:=cU2.out 0 SZ;rw[hp0] at c0;have c05:=(SU.cell (World.block_lt_of_cell? _ _ c0)).trans c0;have ZL:((N:Int)==0)=false:=by rw[beq_eq_false_iff_ne];omega
 have CV:¬ (N:Int)=0:=by omega
 have YO:¬ N=0:=by omega
 have hK0:((K:Int)==0)=false:=by rw[beq_eq_false_iff_ne];omega
 have Yy:¬ (K:Int)=0:=by omega
 have hK3:¬ K=0:=by omega
 obtain⟨d1,d2,d3,d4,d5,d6⟩:=dm p0 N (by omega);obtain⟨u0,hu0⟩:=Ex (p0/N);obtain⟨v0,Xx⟩:=Ex (p0%N);rw[hu0] at d1 d3 d5;rw[Xx] at d2 d4 d6;have hu0l:u0<N:=by rw[<-hu0];exact oh hp0l
 have hv0l:v0<N:=by rw[<-Xx];exact Nat.mod_lt _ (by omega)
 clear c0;generalize af (.slice ua un uc) 0=t0 at *;replace⟨hL1,hp0,hu0,Xx,VZ,Lm⟩:=rr hL1 hp0 hu0 Xx VZ Lm;go_upto_region 8 with fail;refine ar (λw'=>w'.cell? t0=some (.int .i64 p0)/\w'.cell? ⟨w3.heap.size,0,none⟩=some (.int .i64 N)) 15 [(0,true),(1,true),(2,true),(3,true),(4,true),(5,true),(7,true),(8,true),(9,true),(10,true),(11,true),(12,true),(6,false),(13,false),(14,true)] (by kernel_rfl) (by kernel_rfl) ?_;have hS:w5.drew.cell? t0=some (.int .i64 p0)/\w5.drew.cell? ⟨w3.heap.size,0,none⟩=some (.int .i64 N):=⟨c05,cN5⟩;refine ay 47 hS ?_;refine ay 48 hS ?_;refine ay 49 hS ?_;refine ay 50 hS ?_;refine ay 51 hS ?_;refine ay 52 hS ?_;refine ay 54 hS ?_;refine ay 55 hS ?_;refine ay 56 hS ?_;refine ay 57 hS ?_;refine ay 58 hS ?_;refine ay 59 hS ?_;refine fZ rfl (λKK hK=>?_);go_simp;refine(Cj K R' u0 w1.heap.size w5.drew dS fs kK (by omega) qw5.1.1 qw5.1.2.1).mono ?_;rintro e w6 ⟨av,rfl,b6,IP⟩;have hS6:w6.cell? t0=some (.int .i64 p0)/\w6.cell? ⟨w3.heap.size,0,none⟩=some (.int .i64 N):=⟨(b6.cell (World.block_lt_of_cell? _ _ hS.1)).trans hS.1,au b6 hS.2⟩;have qw6:=qw5.below (w':=w6) (Below.trans ((Below.refl _ _).drew) b6);refine hK _ _ hS6 ?_;clear hK KK;refine fZ rfl (λKK hK=>?_);go_simp;refine(Cj K R' v0 w1.heap.size w6 dS fs kK (by omega) qw6.1.1 qw6.1.2.1).mono ?_;rintro e w7 ⟨bv,rfl,b7,eF⟩;have hS7:w7.cell? t0=some (.int .i64 p0)/\w7.cell? ⟨w3.heap.size,0,none⟩=some (.int .i64 N):=⟨(b7.cell (World.block_lt_of_cell? _ _ hS6.1)).trans hS6.1,au b7 hS6.2⟩;refine hK _ _ hS7 ?_;clear hK KK;refine ay 12 hS7 ?_;refine dA ?_;simp only[List.drop_succ_cons,List.drop_zero];have b56:Below w5.heap.size w5 w6:=Below.trans ((Below.refl _ _).drew) b6;have b57:=Below.step b56 b7;rw[hm.out] at IP eF;have r1:=(Rows.void w5.heap.size w5).add (i:=(1,0)) (r':=aD av (aV K m u0)) b56 IP (λk hk=>(IP.lt k hk).1);have r2:=r1.add (i:=(2,0)) (r':=aD bv (aV K m v0)) b7 (eF.mono b56.size) (λk hk=>(eF.lt k hk).1);obtain⟨f,hf⟩:=Ey (ch (ch (λ_=>none) (1,0) (some (aD av (aV K m u0)))) (2,0) (some (aD bv (aV K m v0))));have EZ:f (1,0)=some (aD av (aV K m u0)):=by rw[hf,ad _ _ (by simp),ah]
 have Kw:f (2,0)=some (aD bv (aV K m v0)):=by rw[hf,ah]
 rw[<-hf] at r2;have kg:ns.take 1=[p0]:=by
  cases hns:ns with
  | nil=>exact absurd hns bM.out
  | cons a l=>have:=hp0.out;rw[hns] at this;simp at this;simp[this]
 have qU:dF K m (·/N) (ns.take 1)=aV K m u0:=by rw[kg,Ck,hu0.out]
 have kZ:dF K m (·%N) (ns.take 1)=aV K m v0:=by rw[kg,Ck,Xx.out]
 rw[<-qU] at EZ;rw[<-kZ] at Kw;clear hS hS6 hS7 IP eF r1 hf kg qU kZ qw6 i0 c05 d1 d2 d3 d4 d5 d6;obtain⟨aa,an,ac,rfl⟩:=(r2.aR EZ).at.shape;obtain⟨Rq,bn,bc,rfl⟩:=(r2.aR Kw).at.shape;replace⟨r2,EZ,Kw,qw5,cN5⟩:=mV r2 EZ Kw qw5 cN5;go_wp2;refine NoPanic.normal ?_;go_wp2_with fail;clear hup hup1;go_loopw [12,13,64] (λxa xb jv wr=>∃(j:Nat) (f:Names) (Dc vb':Value),j<=L1/\jv=.int .i64 j/\Dc=xa/\vb'=xb/\Rows w5.heap.size wr f/\Below w5.heap.size w5 wr/\f (1,0)=some (aD Dc (dF K m (·/N) (ns.take (j+1))))/\f (2,0)=some (aD vb' (dF K m (·%N) (ns.take (j+1))))/\(∀i,i<j->l7 K N T' (ns.getD i 0) (ns.getD (i+1) 0))) (λ_ _ jv _=>L1-(intOf jv).toNat);case atStart=>exact⟨0,f,_,_,by omega,rfl,rfl,rfl,r2.out,b57,EZ.out,Kw.out,λi hi=>by omega⟩
 case round =>
  clear EZ Kw r2 b57 b56 b6 b7;obtain⟨j,f2,av,bv,hj,rfl,rfl,rfl,hr,bI,EZ,Kw,wE⟩:=hrel;obtain⟨wo,rfl⟩:=Ey wr;have b0o:=SU.trans (bI.mono SU.size);by_cases dw:j<L1
  .obtain⟨p,hp⟩:=Ex (ns.getD (j+1) 0);obtain⟨pj,Tn⟩:=Ex (ns.getD j 0);have I7:=hL1.out;have wK:=Hd dw;have Kp:p<N*N:=by rw[<-hp];exact Js.out (j+1) (by omega)
   have hpjl:pj<N*N:=by rw[<-Tn];exact Js.out j (by omega)
   have iJ:=λw'=>iP.out j (by omega) w';have cJ:=cP2.out j (by omega);have iI:=λw'=>iU.out j (by omega) w';have cI:=cU2.out j (by omega);rw[hp] at cJ;rw[Tn] at cI;have cJo:=(b0o.cell (World.block_lt_of_cell? _ _ cJ)).trans cJ;have cIo:=(b0o.cell (World.block_lt_of_cell? _ _ cI)).trans cI;have kg:ns.take (j+1+1)=ns.take (j+1)++[p]:=by
    rw[List.take_add_one,List.getElem?_eq_getElem (show j+1<ns.length by omega)];have:ns[j+1]'(by omega)=p:=by rw[<-hp];simp[List.getD,show j+1<ns.length by omega]
    rw[this];rfl
   have gY:ns.take (j+1)≠[]:=by
    intro e;have:=congrArg List.length e;rw[List.length_take,List.length_nil] at this;omega
   have C0:=zP K m (·/N) (ns.take (j+1)) p gY;have ql:=zP K m (·%N) (ns.take (j+1)) p gY;rw[<-kg] at C0 ql;obtain⟨d1,d2,d3,d4,d5,d6⟩:=dm p N (by omega);obtain⟨u1,EB⟩:=Ex (p/N);obtain⟨v1,Ef⟩:=Ex (p%N);rw[EB] at d1 d3 d5 C0;rw[Ef] at d2 d4 d6 ql;have hu1l:u1<N:=by rw[<-EB];exact oh Kp
   have hv1l:v1<N:=by rw[<-Ef];exact Nat.mod_lt _ (by omega)
   obtain⟨g1,g2,g3,g4,g5,g6⟩:=dm pj N (by omega);obtain⟨uj,huj⟩:=Ex (pj/N);obtain⟨vj,hvj⟩:=Ex (pj%N);rw[huj] at g1 g3 g5;rw[hvj] at g2 g4 g6;have hujl:uj<N:=by rw[<-huj];exact oh hpjl
   have hvjl:vj<N:=by rw[<-hvj];exact Nat.mod_lt _ (by omega)
   obtain⟨_,x2,_,x4,_,x6⟩:=dm u1 K (by omega);obtain⟨_,z2,_,z4,_,z6⟩:=dm v1 K (by omega);obtain⟨s,hs⟩:=Ex (u1%K);obtain⟨t,ht⟩:=Ex (v1%K);rw[hs] at x2 x4 x6 C0;rw[ht] at z2 z4 z6 ql;have sD:s<K:=by rw[<-hs];exact Nat.mod_lt _ (by omega)
   have ko:t<K:=by rw[<-ht];exact Nat.mod_lt _ (by omega)
   have df:l7 K N T' pj p↔rW K N uj s=u1/\rW K N vj t=v1/\lf K T' uj s=lf K T' vj t:=by
    unfold l7;rw[EB,Ef,huj,hvj,hs,ht]
   have qwo:=qw5.out.below bI;have cNo:=au bI cN5.out;clear cJ cI;generalize af (.slice pa pn pc) j=tj at *;generalize af (.slice ua un uc) j=ti at *;have NC:=hr.aR EZ;have uw:=hr.aR Kw;have hm6:m<=6:=by have:=hm.out;omega
   have hLa:(dF K m (·/N) (ns.take (j+1))).length<=17592186044100:=by rw[ew,List.length_take];omega
   have hLb:(dF K m (·%N) (ns.take (j+1))).length<=17592186044100:=by rw[ew,List.length_take];omega
   replace⟨hp,Tn,I7,kg,gY,C0,ql,EB⟩:=gp hp Tn I7 kg gY C0 ql EB;replace⟨Ef,huj,hvj,hs,ht,df,wE,hr⟩:=gp Ef huj hvj hs ht df wE hr;replace⟨EZ,Kw,NC,uw⟩:=gF EZ Kw NC uw;go_upto_region 12 with fail;refine ar (λw'=>w'.cell? ⟨w1.heap.size,0,none⟩=some (.int .i64 K)/\w'.cell? ⟨w3.heap.size,0,none⟩=some (.int .i64 N)) 13 [(0,true),(1,true),(2,true),(3,true),(4,true),(5,true),(6,true),(7,true),(8,true),(9,true),(10,true),(11,true),(12,true)] (by kernel_rfl) (by kernel_rfl) ?_;have hS:wo.drew.cell? ⟨w1.heap.size,0,none⟩=some (.int .i64 K)/\wo.drew.cell? ⟨w3.heap.size,0,none⟩=some (.int .i64 N):=⟨qwo.1.1,cNo⟩;refine ay 69 hS ?_;refine ay 70 hS ?_;refine ay 71 hS ?_;refine ay 72 hS ?_;refine ay 73 hS ?_;refine ay 74 hS ?_;refine ay 75 hS ?_;refine ay 76 hS ?_;refine ay 77 hS ?_;refine ay 78 hS ?_;refine ay 79 hS ?_;refine ay 80 hS ?_;refine ay 16 hS ?_;refine dA ?_;simp only[List.drop_succ_cons,List.drop_zero];clear hS;go_wp2;refine NoPanic.normal ?_;go_upto_region 13 with fail;refine ar (λw'=>w'.cell? ⟨w1.heap.size,0,none⟩=some (.int .i64 K)/\w'.cell? ⟨w1.heap.size,1,none⟩=some (.int .i64 R')/\w'.cell? ⟨w1.heap.size,2,none⟩=some (.slice a n c)/\w'.cell? ⟨w3.heap.size,0,none⟩=some (.int .i64 N)/\w'.cell? ti=some (.int .i64 pj)) 15 [(0,true),(1,true),(2,true),(3,true),(4,true),(5,true),(6,true),(7,true),(8,false),(9,true),(10,true),(11,true),(12,true),(13,true),(14,true)] (by kernel_rfl) (by kernel_rfl) ?_;have hS:wo.drew.drew.cell? ⟨w1.heap.size,0,none⟩=some (.int .i64 K)/\wo.drew.drew.cell? ⟨w1.heap.size,1,none⟩=some (.int .i64 R')/\wo.drew.drew.cell? ⟨w1.heap.size,2,none⟩=some (.slice a n c)/\wo.drew.drew.cell? ⟨w3.heap.size,0,none⟩=some (.int .i64 N)/\wo.drew.drew.cell? ti=some (.int .i64 pj):=⟨qwo.1.1,qwo.1.2.1,qwo.1.2.2,cNo,cIo⟩;refine ay 82 hS ?_;refine ay 83 hS ?_;refine ay 84 hS ?_;refine ay 85 hS ?_;refine ay 86 hS ?_;refine ay 87 hS ?_;refine ay 88 hS ?_;refine ay 89 hS ?_;refine fZ rfl (λKK hK=>?_);go_simp;refine(uh.out a n c uj s wo.drew.drew (Lm.out.below bI.drew.drew) (VZ.out.below bI.drew.drew) hujl sD).mono ?_;rintro e w6 ⟨x,y,z,rfl,b6,rfl,rfl,rfl⟩;obtain⟨X1,Ve⟩:=Ex (rW K N uj s);obtain⟨O1,Ct⟩:=Ex (lf K T' uj s);rw[Ve,Ct];have bo6:Below wo.heap.size wo w6:=Below.trans ((Below.refl _ _).drew.drew) b6;have hS6:w6.cell? ⟨w1.heap.size,0,none⟩=some (.int .i64 K)/\w6.cell? ⟨w1.heap.size,1,none⟩=some (.int .i64 R')/\w6.cell? ⟨w1.heap.size,2,none⟩=some (.slice a n c)/\w6.cell? ⟨w3.heap.size,0,none⟩=some (.int .i64 N)/\w6.cell? ti=some (.int .i64 pj):=⟨au b6 hS.1,au b6 hS.2.1,au b6 hS.2.2.1,au b6 hS.2.2.2.1,(b6.cell (World.block_lt_of_cell? _ _ hS.2.2.2.2)).trans hS.2.2.2.2⟩;refine hK _ _ hS6 ?_;clear hK KK;refine ay 81 hS6 ?_;refine ay 91 hS6 ?_;refine ay 92 hS6 ?_;refine ay 93 hS6 ?_;refine ay 18 hS6 ?_;refine ay 19 hS6 ?_;refine dA ?_;simp only[List.drop_succ_cons,List.drop_zero];have bI6:=bI.trans (bo6.mono bI.size);have hS6':=Hd hS6;clear hS hS6;go_wp2;refine NoPanic.normal ?_;go_upto_region 14 with fail;refine ar (λw'=>w'.cell? ⟨w1.heap.size,0,none⟩=some (.int .i64 K)/\w'.cell? ⟨w1.heap.size,1,none⟩=some (.int .i64 R')/\w'.cell? ⟨w1.heap.size,2,none⟩=some (.slice a n c)/\w'.cell? ⟨w3.heap.size,0,none⟩=some (.int .i64 N)/\w'.cell? ti=some (.int .i64 pj)) 15 [(0,true),(1,true),(2,true),(3,true),(4,true),(5,true),(6,true),(7,true),(8,false),(9,true),(10,true),(11,true),(12,true),(13,true),(14,true)] (by kernel_rfl) (by kernel_rfl) ?_;have hS:w6.drew.cell? ⟨w1.heap.size,0,none⟩=some (.int .i64 K)/\w6.drew.cell? ⟨w1.heap.size,1,none⟩=some (.int .i64 R')/\w6.drew.cell? ⟨w1.heap.size,2,none⟩=some (.slice a n c)/\w6.drew.cell? ⟨w3.heap.size,0,none⟩=some (.int .i64 N)/\w6.drew.cell? ti=some (.int .i64 pj):=hS6'.out;refine ay 95 hS ?_;refine ay 96 hS ?_;refine ay 97 hS ?_;refine ay 98 hS ?_;refine ay 99 hS ?_;refine ay 100 hS ?_;refine ay 101 hS ?_;refine ay 102 hS ?_;refine fZ rfl (λKK hK=>?_);go_simp;refine(uh.out a n c vj t w6.drew (Lm.out.below bI6.drew) (VZ.out.below bI6.drew) hvjl ko).mono ?_;rintro e w7 ⟨x,y,z,rfl,b7,rfl,rfl,rfl⟩;obtain⟨X2,Ia⟩:=Ex (rW K N vj t);obtain⟨O2,jh⟩:=Ex (lf K T' vj t);rw[Ia,jh];have b67:Below w6.heap.size w6 w7:=Below.trans ((Below.refl _ _).drew) b7;have bo7:=Below.step bo6 b67;have bI7:=bI.trans (bo7.mono bI.size);have hS7:w7.cell? ⟨w1.heap.size,0,none⟩=some (.int .i64 K)/\w7.cell? ⟨w1.heap.size,1,none⟩=some (.int .i64 R')/\w7.cell? ⟨w1.heap.size,2,none⟩=some (.slice a n c)/\w7.cell? ⟨w3.heap.size,0,none⟩=some (.int .i64 N)/\w7.cell? ti=some (.int .i64 pj):=⟨au b7 hS.1,au b7 hS.2.1,au b7 hS.2.2.1,au b7 hS.2.2.2.1,(b7.cell (World.block_lt_of_cell? _ _ hS.2.2.2.2)).trans hS.2.2.2.2⟩;refine hK _ _ hS7 ?_;clear hK KK;refine ay 94 hS7 ?_;refine ay 104 hS7 ?_;refine ay 105 hS7 ?_;refine ay 106 hS7 ?_;refine ay 21 hS7 ?_;refine ay 22 hS7 ?_;refine dA ?_;simp only[List.drop_succ_cons,List.drop_zero];obtain⟨k0,k1,k2,k3,k4⟩:=hS7;clear hS hS6' cIo cJo k0 k1 k2 k4 cNo;rw[Ve,Ct,Ia,jh] at df;replace⟨Ve,Ia,Ct,jh⟩:=gF Ve Ia Ct jh;go_wp2;refine NoPanic.normal ?_;by_cases e1:X1=u1
   .have q1:((X1:Int) != (u1:Int))=false:=by rw[bne_eq_false_iff_eq];omega
    by_cases e2:X2=v1
    .have q2:((X2:Int) != (v1:Int))=false:=by rw[bne_eq_false_iff_eq];omega
     by_cases e3:O1=O2
     .have q3:(O1 != O2)=false:=by rw[bne_eq_false_iff_eq];exact e3
      have yQ:=df.out.2 ⟨e1,e2,e3⟩;have pf:=hr.out.below bo7;have hoa7:=NC.out.below bo7;have PC:=bI7.size;replace⟨e1,e2,e3,pf⟩:=gF e1 e2 e3 pf;go_wp2_with (at_builtin;go_loud (refine gi rfl _ _ rfl w5.heap.size av _ s hoa7 rfl rfl (by omega) PC ?_));intro av2 w8 CS b8 WR Xp;have nC:=pf.out.push EZ.out (s:Int) CS WR Xp;have We:ch f2 (1,0) (some (aD av2 (dF K m (·/N) (ns.take (j+1))++[(s:Int)]))) (2,0)=some (aD bv (dF K m (·%N) (ns.take (j+1)))):=by rw[ad _ _ (by simp)];exact Kw.out
      have hob8:=nC.aR We;have Nv:w5.heap.size<=w8.heap.size:=Nat.le_trans PC b8.size;obtain⟨a2a,a2n,a2c,rfl⟩:=CS.at.shape;replace⟨nC,CS⟩:=bD nC CS;clear WR Xp hoa7;go_wp2_with (at_builtin;go_loud (refine gi rfl _ _ rfl w5.heap.size bv _ t hob8 rfl rfl (by omega) Nv ?_));intro bv2 w9 vQ b9 hgr9 Vi;have xN:=nC.out.push We (t:Int) vQ hgr9 Vi;obtain⟨b2a,b2n,b2c,rfl⟩:=vQ.at.shape;replace⟨xN,vQ,We⟩:=dO xN vQ We;clear hgr9 Vi hob8;go_wp2;go_roundw;case measure=>have:=wK.out;simp[intOf];omega
      case rel =>
       refine⟨j+1,_,_,_,by have:=wK.out;omega,by go_num,rfl,rfl,xN.out,bI7.trans (b8.trans b9),?_,?_,λi hi=>?_⟩;.rw[ad _ _ (by simp),ah,C0.out]
       .rw[ah,ql.out]
       .by_cases e:i=j;.subst e;rw[Tn.out,hp.out];exact yQ
        .exact wE.out i (by omega)
     .have q3:(O1 != O2)=true:=by rw[bne_iff_ne];exact e3
      have yQ:¬ wQ K N T' ns:=λhA=>by
       have:=hA j (by have:=I7.out;have:=wK.out;omega);rw[Tn.out,hp.out,df.out] at this;exact e3 this.2.2
      replace yQ:=Hd yQ;go_wp2_with fail;refine(tL r _ _ w7 (Lm.out.below bI7) (by decide) (by decide)).mono ?_;rintro e w8 ⟨x,rfl,b8,he⟩;replace he:=Hd he;have bE:=Below.step (SU.trans (bI7.mono SU.size)) b8;go_wp2;go_ret3;exact⟨_,_,_,rfl,bE,.inr ⟨yQ.out,rfl,rfl,he.out⟩⟩
    .have q2:((X2:Int) != (v1:Int))=true:=by rw[bne_iff_ne];omega
     have yQ:¬ wQ K N T' ns:=λhA=>by
      have:=hA j (by have:=I7.out;have:=wK.out;omega);rw[Tn.out,hp.out,df.out] at this;exact e2 this.2.1
     replace yQ:=Hd yQ;go_wp2_with fail;refine(tL r _ _ w7 (Lm.out.below bI7) (by decide) (by decide)).mono ?_;rintro e w8 ⟨x,rfl,b8,he⟩;replace he:=Hd he;have bE:=Below.step (SU.trans (bI7.mono SU.size)) b8;go_wp2;go_ret3;exact⟨_,_,_,rfl,bE,.inr ⟨yQ.out,rfl,rfl,he.out⟩⟩
   .have q1:((X1:Int) != (u1:Int))=true:=by rw[bne_iff_ne];omega
    have yQ:¬ wQ K N T' ns:=λhA=>by
     have:=hA j (by have:=I7.out;have:=wK.out;omega);rw[Tn.out,hp.out,df.out] at this;exact e1 this.1
    replace yQ:=Hd yQ;go_wp2_with fail;refine(tL r _ _ w7 (Lm.out.below bI7) (by decide) (by decide)).mono ?_;rintro e w8 ⟨x,rfl,b8,he⟩;replace he:=Hd he;have bE:=Below.step (SU.trans (bI7.mono SU.size)) b8;go_wp2;go_ret3;exact⟨_,_,_,rfl,bE,.inr ⟨yQ.out,rfl,rfl,he.out⟩⟩
  .obtain rfl:j=L1:=by omega
   have jB:ns.take (j+1)=ns:=List.take_of_length_le (by have:=hL1.out;omega);rw[jB] at EZ Kw;have NC:=hr.aR EZ;have uw:=hr.aR Kw;have hdis:=hr.2 (1,0) (2,0) _ _ EZ Kw (by simp);have hAll:wQ K N T' ns:=λi hi=>wE i (by have:=hL1.out;omega);have hoa':=NC.mono (B':=w.heap.size) SU.size;have hob':=uw.mono (B':=w.heap.size) SU.size;obtain⟨a2a,a2n,a2c,rfl⟩:=NC.at.shape;obtain⟨b2a,b2n,b2c,rfl⟩:=uw.at.shape;replace⟨hr,EZ,Kw,NC,uw,hoa',hob',hdis⟩:=gp hr EZ Kw NC uw hoa' hob' hdis;replace⟨hAll,wE⟩:=bD hAll wE;go_wp2;go_ret3;exact⟨_,_,_,rfl,b0o,.inl ⟨hAll.out,rfl,hoa'.out,hob'.out,hdis.out⟩⟩
theorem nZ{ops:Array Oper}{o:Oper}{a:Act}{w:World}{K:Act->World->Prop}{Q:Exit->Act->World->Prop}{Ep:Prop}(jZ:o.guard=none)(s x:Operand)(ho:o.op=.call { callee:=.builtin .append,args:=#[s,x],argTypes:=#[22,22] })(B:Nat)(v u:Value)(xs ys:List Int)(hs:a.eval s=v)(hx:a.eval x=u)(aO:aj B w v xs)(hu:ae w u ys)(hlen:xs.length+ys.length<=17592186044416)(hB:B<=w.heap.size)(h:∀v' w',aj B w' v' (xs++ys)->Below B w w'->w.grownBy w' v.ownBlock->(v'.ownBlock=v.ownBlock\/v'.ownBlock=some w.heap.size)->K (a.put o.dst v') w'):
 if Region.wanted o (yielded ops a.tmps)=true then Oper.wp Tryz.prog o a w K Q else Ep:=by
 have hw:Region.wanted o (yielded ops a.tmps)=true:=by simp[Region.wanted,jZ]
 rw[if_pos hw];obtain⟨v',w',hr,h2,h3,h4,h5⟩:=IA B o.type v u xs ys aO hu hlen hB;unfold Oper.wp;simp[execOp,ho,resolve,invoke,builtin,hs,hx,hr,Result.andThen];exact h v' w' h2 h3 h4 h5
def SD(B:Nat)(W:World)(va:Value)(xs:List Int)(vb:Value)(ys:List Int)(L M:Option (Nat×Int)):Prop :=
 ∃f,Rows B W f/\f (1,0)=some (aD va xs)/\f (2,0)=some (aD vb ys)/\(∀b s,L=some (b,s)->f (3,0)=some (aD (.slice (some ⟨b,0,none⟩) 1 1) [s]))/\(∀b s,M=some (b,s)->f (4,0)=some (aD (.slice (some ⟨b,0,none⟩) 1 1) [s]))
section
variable {B:Nat} {W:World} {va vb:Value} {xs ys:List Int} {L M:Option (Nat×Int)}
theorem SD.Ug(h:SD B W va xs vb ys L M):aj B W va xs:=by obtain⟨f,hr,h1,_⟩:=h;exact hr.aR h1
theorem SD.TU(h:SD B W va xs vb ys L M):aj B W vb ys:=by obtain⟨f,hr,_,h2,_⟩:=h;exact hr.aR h2
theorem SD.litL{b:Nat}{s:Int}(h:SD B W va xs vb ys (some (b,s)) M):ae W (.slice (some ⟨b,0,none⟩) 1 1) [s]:=by obtain⟨f,hr,_,_,h3,_⟩:=h;exact(hr.aR (h3 b s rfl)).at
theorem SD.litM{b:Nat}{s:Int}(h:SD B W va xs vb ys L (some (b,s))):ae W (.slice (some ⟨b,0,none⟩) 1 1) [s]:=by obtain⟨f,hr,_,_,_,h4⟩:=h;exact(hr.aR (h4 b s rfl)).at
theorem SD.two(h:SD B W va xs vb ys L M):va.ownBlock=Option.none\/va.ownBlock≠vb.ownBlock:=by obtain⟨f,hr,h1,h2,_⟩:=h;exact hr.2 (1,0) (2,0) _ _ h1 h2 (by simp)
theorem SD.forget(h:SD B W va xs vb ys L M):SD B W va xs vb ys Option.none Option.none:=by obtain⟨f,hr,h1,h2,_⟩:=h;exact⟨f,hr,h1,h2,(λ_ _ e=>by cases e),(λ_ _ e=>by cases e)⟩
theorem SD.below{w':World}(h:SD B W va xs vb ys L M)(hb:Below W.heap.size W w'):SD B w' va xs vb ys L M:=by obtain⟨f,hr,h1⟩:=h;exact⟨f,hr.below hb,h1⟩
theorem N8{B:Nat}{W:World}(hB:B<=W.heap.size)(s:Int):aj B (W.alloc (.cells #[.int .i64 s] 3)) (.slice (some ⟨W.heap.size,0,none⟩) 1 1) [s] :=
 aj.lit B W hB [s] (by simp[maxLen]) #[.int .i64 s] rfl 1 rfl
theorem SD.addL(h:SD B W va xs vb ys Option.none M)(hB:B<=W.heap.size)(s:Int){b:Nat}(hb:b=W.heap.size):SD B (W.alloc (.cells #[.int .i64 s] 3)) va xs vb ys (some (b,s)) M:=by
 subst hb;obtain⟨f,hr,h1,h2,h3,h4⟩:=h;refine⟨_,hr.add (i:=(3,0)) (r':=aD (.slice (some ⟨W.heap.size,0,none⟩) 1 1) [s]) (ab W _) (N8 hB s) (λk hk=>by cases hk;exact Nat.le_refl _),by rw[ad _ _ (by simp)];exact h1,by rw[ad _ _ (by simp)];exact h2,λb t e=>?_,λb t e=>by rw[ad _ _ (by simp)];exact h4 b t e⟩;cases e;rw[ah]
theorem SD.addM(h:SD B W va xs vb ys L Option.none)(hB:B<=W.heap.size)(s:Int){b:Nat}(hb:b=W.heap.size):SD B (W.alloc (.cells #[.int .i64 s] 3)) va xs vb ys L (some (b,s)):=by
 subst hb;obtain⟨f,hr,h1,h2,h3,h4⟩:=h;refine⟨_,hr.add (i:=(4,0)) (r':=aD (.slice (some ⟨W.heap.size,0,none⟩) 1 1) [s]) (ab W _) (N8 hB s) (λk hk=>by cases hk;exact Nat.le_refl _),by rw[ad _ _ (by simp)];exact h1,by rw[ad _ _ (by simp)];exact h2,λb t e=>by rw[ad _ _ (by simp)];exact h3 b t e,λb t e=>?_⟩;cases e;rw[ah]
theorem SD.appA{w':World}{v':Value}{s:Int}(h:SD B W va xs vb ys L M)(ho:aj B w' v' (xs++[s]))(hg:W.grownBy w' va.ownBlock)(hJ:v'.ownBlock=va.ownBlock\/v'.ownBlock=some W.heap.size):SD B w' v' (xs++[s]) vb ys Option.none M:=by
 obtain⟨f,hr,h1,h2,h3,h4⟩:=h;refine⟨_,hr.push h1 s ho hg (hJ.imp id λe=>⟨_,e,Nat.le_refl _⟩),ah _ _ _,by rw[ad _ _ (by simp)];exact h2,(λ_ _ e=>by cases e),λb t e=>by rw[ad _ _ (by simp)];exact h4 b t e⟩
theorem SD.appB{w':World}{v':Value}{s:Int}(h:SD B W va xs vb ys L M)(ho:aj B w' v' (ys++[s]))(hg:W.grownBy w' vb.ownBlock)(hJ:v'.ownBlock=vb.ownBlock\/v'.ownBlock=some W.heap.size):SD B w' va xs v' (ys++[s]) L Option.none:=by
 obtain⟨f,hr,h1,h2,h3,h4⟩:=h;refine⟨_,hr.push h2 s ho hg (hJ.imp id λe=>⟨_,e,Nat.le_refl _⟩),by rw[ad _ _ (by simp)];exact h1,ah _ _ _,λb t e=>by rw[ad _ _ (by simp)];exact h3 b t e,(λ_ _ e=>by cases e)⟩
end
def jH(k n:Nat)(way:List Nat):List Int:=aw (way.map λp=>p/n%k)
def jE(k n:Nat)(way:List Nat):List Int:=aw (way.map λp=>p%n%k)
theorem Ll{k n:Nat}{way:List Nat}{i p:Nat}(h:way[i]?=some p):jH k n (way.take (i+1))=jH k n (way.take i)++[((p/n%k:Nat):Int)]:=by
 rw[List.take_add_one,h];simp[jH,aw]
theorem Lv{k n:Nat}{way:List Nat}{i p:Nat}(h:way[i]?=some p):jE k n (way.take (i+1))=jE k n (way.take i)++[((p%n%k:Nat):Int)]:=by
 rw[List.take_add_one,h];simp[jE,aw]
theorem Ph(k n:Nat)(way:List Nat):(jH k n way).length=way.length:=by simp[jH,aA]
theorem O0(k n:Nat)(way:List Nat):(jE k n way).length=way.length:=by simp[jE,aA]
theorem th(k n:Nat)(u:Value)(way:List Nat)(w:World)(hu:ae w u (aw way))(hk:1<=k)(hn:1<=n)(jA:∀p∈way,p<=1000000)(hlen:way.length<=1000000):
 Calls Tryz.prog 90 #[.int .i64 k,.int .i64 n,u] w (jf (λx y w'=>aj w.heap.size w' x (jH k n way)/\aj w.heap.size w' y (jE k n way)/\(x.ownBlock=none\/x.ownBlock≠y.ownBlock)) w):=by
 have lu:=hu.len;rw[aA] at lu;obtain⟨ua,un,uc,rfl⟩:=hu.shape;have dS:¬ (k:Int)=0:=by omega
 have Sr:((k:Int)==0)=false:=by rw[beq_eq_false_iff_ne];omega
 have Tp:¬ k=0:=by omega
 have IU:¬ (n:Int)=0:=by omega
 have vm:((n:Int)==0)=false:=by rw[beq_eq_false_iff_ne];omega
 have hn3:¬ n=0:=by omega
 have hS0:SD w.heap.size w (.slice none 0 0) (jH k n (way.take 0)) (.slice none 0 0) (jE k n (way.take 0)) Option.none Option.none:=by
  refine⟨λi=>if i=(1,0)\/i=(2,0) then some (aD (.slice none 0 0) []) else Option.none,⟨λi r hi=>?_,λi j r s hi hj bM=>?_⟩,by simp[jH,aw],by simp[jE,aw],(λ_ _ e=>by cases e),(λ_ _ e=>by cases e)⟩
  .dsimp only at hi;split at hi;.cases hi;exact aj.nil _ _
   .cases hi
  .dsimp only at hi;split at hi;.cases hi;exact .inl rfl
   .cases hi
 replace⟨hu,jA,hS0⟩:=dO hu jA hS0;go_enter Tryz.func90,Tryz.ntmps90;go_wp2_with fail;go_loopw [8,9,14] (λav bv iv wr=>∃(i:Nat) (va vb:Value),i<=way.length/\iv=.int .i64 i/\va=av/\vb=bv/\SD w.heap.size wr va (jH k n (way.take i)) vb (jE k n (way.take i)) Option.none Option.none/\Below w.heap.size w wr) (λ_ _ iv _=>way.length-(intOf iv).toNat);case atStart=>exact⟨0,_,_,by omega,rfl,rfl,rfl,hS0.out,Below.refl _ _⟩
 case round =>
  clear hS0;obtain⟨i,va,vb,hi,rfl,rfl,rfl,hS,hB⟩:=hrel;obtain⟨wo,rfl⟩:=Ey wr;by_cases jM:i<way.length
  .obtain⟨p,hp⟩:∃p,way[i]?=some p:=⟨_,List.getElem?_eq_getElem jM⟩;have Kp:=jA.out p (List.mem_of_getElem? hp);have huo:=hu.out.below hB;have iU:=λw'=>huo.idx i (by rw[aA];exact jM) w';have cU:=huo.aH i (by rw[aA];exact jM);rw[j3 hp] at cU;have tA:=Ll (k:=k) (n:=n) hp;have tB:=Lv (k:=k) (n:=n) hp;have lA:=Ph k n (way.take i);have lB:=O0 k n (way.take i);rw[List.length_take] at lA lB;have lA2:(jH k n (way.take i)).length<=1000000:=by omega
   have lB2:(jE k n (way.take i)).length<=1000000:=by omega
   clear lA lB;obtain⟨a1,a2,a3,a4,a5,a6⟩:=dm p n (by omega);have hJ:p/n<=p:=Nat.div_le_self _ _;have Kz:p%n<=p:=Nat.mod_le _ _;obtain⟨a,ha⟩:=Ex (p/n);obtain⟨b,hb⟩:=Ex (p%n);rw[ha] at a1 a3 a5 hJ tA;rw[hb] at a2 a4 a6 Kz tB;obtain⟨-,b2,-,b4,-,b6⟩:=dm a k (by omega);obtain⟨-,c2,-,c4,-,c6⟩:=dm b k (by omega);obtain⟨s,hs⟩:=Ex (a%k);obtain⟨t,ht⟩:=Ex (b%k);rw[hs] at b2 b4 b6 tA;rw[ht] at c2 c4 c6 tB;generalize af (.slice ua un uc) i=ui at *;have td:=Hd jM;replace⟨hp,ha,hb,hs,ht,tA,tB,huo⟩:=gp hp ha hb hs ht tA tB huo;obtain⟨W,hW⟩:=Ey wo.drew;have hSW:SD w.heap.size W va (jH k n (way.take i)) vb (jE k n (way.take i)) Option.none Option.none:=by rw[hW];exact hS.below ((Below.refl _ _).drew)
   have V8:Below w.heap.size w W:=by rw[hW];exact hB.drew
   have gQ:=V8.size;have hva:=hS.Ug.at.shape;have Vw:=hS.TU.at.shape;obtain⟨aa,an,ac,rfl⟩:=hva;obtain⟨ba,bn,bc,rfl⟩:=Vw;generalize jH k n (way.take i)=As at *;generalize jE k n (way.take i)=Bs at *;go_upto_region 5 with fail;refine wp_region_noPanic ?_;refine wp_region_any (by kernel_rfl) ?_;change wpAny _ _ _ _ _ _ _ (World.drew _);rw[<-hW];clear hS hB cU iU hW;refine oY 0 18 ?_;refine oY 1 19 ?_;refine oY 2 20 ?_;refine oY 3 21 ?_;refine oY 4 22 ?_;refine oY 5 23 ?_;refine oY 8 26 ?_;refine oY 9 27 ?_;refine oY 10 28 ?_;refine oY 11 29 ?_;refine oY 12 30 ?_;refine oY 13 31 ?_;refine wpAny_ready (rs:=[6,14]) (by kernel_rfl) (by simp) (AllReady.cons rfl (λKK hK=>?_) (AllReady.cons rfl (λKK hK=>?_) AllReady.nil))
   .go_simp;refine hK _ _ ?_;clear hK KK;obtain⟨X1,hY1⟩:=Ey (W.alloc (.cells #[.int .i64 (s:Int)] 3));have S1:=hSW.addL gQ (s:Int) rfl;have B1:=V8.trans ((ab W (.cells #[.int .i64 (s:Int)] 3)).mono gQ);rw[<-hY1] at S1 B1 ⊢;have Ve:w.heap.size<=X1.heap.size:=B1.size;clear hSW hY1;refine wpAny_ready (rs:=[7,14]) (by kernel_rfl) (by simp) (AllReady.cons rfl (λKK hK=>?_) (AllReady.cons rfl (λKK hK=>?_) AllReady.nil))
    .refine nZ rfl _ _ rfl w.heap.size (.slice aa an ac) _ As [(s:Int)] rfl rfl S1.Ug S1.litL (by simp;omega) Ve ?_;intro v' X2 nD nh sM tC;refine hK _ _ ?_;clear hK KK;have S2:=S1.appA nD sM tC;have B2:=B1.trans nh;have Ia:w.heap.size<=X2.heap.size:=B2.size;obtain⟨ea,en,ec,rfl⟩:=nD.at.shape;clear S1 nD nh sM tC;refine wpAny_ready (rs:=[14]) (by kernel_rfl) (by simp) (AllReady.cons rfl (λKK hK=>?_) AllReady.nil)
     .go_simp;refine hK _ _ ?_;clear hK KK;obtain⟨X3,hY3⟩:=Ey (X2.alloc (.cells #[.int .i64 (t:Int)] 3));have S3:=S2.addM Ia (t:Int) rfl;have B3:=B2.trans ((ab X2 (.cells #[.int .i64 (t:Int)] 3)).mono Ia);rw[<-hY3] at S3 B3 ⊢;have hX3:w.heap.size<=X3.heap.size:=B3.size;clear S2 hY3;refine wpAny_ready (rs:=[15]) (by kernel_rfl) (by simp) (AllReady.cons rfl (λKK hK=>?_) AllReady.nil)
      .refine nZ rfl _ _ rfl w.heap.size (.slice ba bn bc) _ Bs [(t:Int)] rfl rfl S3.TU S3.litM (by simp;omega) hX3 ?_;intro v' X4 nD nh sM tC;refine hK _ _ ?_;clear hK KK;have S4:=S3.appB nD sM tC;have B4:=B3.trans nh;have hX4:w.heap.size<=X4.heap.size:=B4.size;obtain⟨fa,fn,fc,rfl⟩:=nD.at.shape;clear S3 nD nh sM tC;refine xg (i:=16) (v:=?_) (some 8) rfl rfl (by kernel_rfl) (by kernel_rfl) (by kernel_rfl) (λ_ _ _ h=>h) (Or.inl ⟨by rfl,?_⟩) ?_;rotate_left;.intro _;go_simp;try with_reducible rfl
       simp only[Act.put,List.setIfInBounds_toArray];refine xg (i:=17) (v:=?_) (some 9) rfl rfl (by kernel_rfl) (by kernel_rfl) (by kernel_rfl) (λ_ _ _ h=>h) (Or.inl ⟨by rfl,?_⟩) ?_;rotate_left;.intro _;go_simp;try with_reducible rfl
       simp only[Act.put];refine wpAny_done (by kernel_rfl) ?_ _;refine NoPanic.normal ?_;have hF:=S4.forget;rw[<-tA.out,<-tB.out] at hF;replace hF:=Hd hF;clear S4;go_wp2;go_roundw;case rel=>exact⟨i+1,_,_,by have:=td.out;omega,by go_num,rfl,rfl,hF.out,B4⟩
       case measure=>have:=td.out;simp[intOf];omega
    .go_simp;refine hK _ _ ?_;clear hK KK;obtain⟨X2,MD⟩:=Ey (X1.alloc (.cells #[.int .i64 (t:Int)] 3));have S2:=S1.addM Ve (t:Int) rfl;have B2:=B1.trans ((ab X1 (.cells #[.int .i64 (t:Int)] 3)).mono Ve);rw[<-MD] at S2 B2 ⊢;have Ia:w.heap.size<=X2.heap.size:=B2.size;clear S1 MD;refine wpAny_ready (rs:=[7]) (by kernel_rfl) (by simp) (AllReady.cons rfl (λKK hK=>?_) AllReady.nil)
     .refine nZ rfl _ _ rfl w.heap.size (.slice aa an ac) _ As [(s:Int)] rfl rfl S2.Ug S2.litL (by simp;omega) Ia ?_;intro v' X3 nD nh sM tC;refine hK _ _ ?_;clear hK KK;have S3:=S2.appA nD sM tC;have B3:=B2.trans nh;have hX3:w.heap.size<=X3.heap.size:=B3.size;obtain⟨ea,en,ec,rfl⟩:=nD.at.shape;clear S2 nD nh sM tC;refine wpAny_ready (rs:=[15]) (by kernel_rfl) (by simp) (AllReady.cons rfl (λKK hK=>?_) AllReady.nil)
      .refine nZ rfl _ _ rfl w.heap.size (.slice ba bn bc) _ Bs [(t:Int)] rfl rfl S3.TU S3.litM (by simp;omega) hX3 ?_;intro v' X4 nD nh sM tC;refine hK _ _ ?_;clear hK KK;have S4:=S3.appB nD sM tC;have B4:=B3.trans nh;have hX4:w.heap.size<=X4.heap.size:=B4.size;obtain⟨fa,fn,fc,rfl⟩:=nD.at.shape;clear S3 nD nh sM tC;refine xg (i:=16) (v:=?_) (some 8) rfl rfl (by kernel_rfl) (by kernel_rfl) (by kernel_rfl) (λ_ _ _ h=>h) (Or.inl ⟨by rfl,?_⟩) ?_;rotate_left;.intro _;go_simp;try with_reducible rfl
       simp only[Act.put,List.setIfInBounds_toArray];refine xg (i:=17) (v:=?_) (some 9) rfl rfl (by kernel_rfl) (by kernel_rfl) (by kernel_rfl) (λ_ _ _ h=>h) (Or.inl ⟨by rfl,?_⟩) ?_;rotate_left;.intro _;go_simp;try with_reducible rfl
       simp only[Act.put];refine wpAny_done (by kernel_rfl) ?_ _;refine NoPanic.normal ?_;have hF:=S4.forget;rw[<-tA.out,<-tB.out] at hF;replace hF:=Hd hF;clear S4;go_wp2;go_roundw;case rel=>exact⟨i+1,_,_,by have:=td.out;omega,by go_num,rfl,rfl,hF.out,B4⟩
       case measure=>have:=td.out;simp[intOf];omega
   .go_simp;refine hK _ _ ?_;clear hK KK;obtain⟨X1,hY1⟩:=Ey (W.alloc (.cells #[.int .i64 (t:Int)] 3));have S1:=hSW.addM gQ (t:Int) rfl;have B1:=V8.trans ((ab W (.cells #[.int .i64 (t:Int)] 3)).mono gQ);rw[<-hY1] at S1 B1 ⊢;have Ve:w.heap.size<=X1.heap.size:=B1.size;clear hSW hY1;refine wpAny_ready (rs:=[6]) (by kernel_rfl) (by simp) (AllReady.cons rfl (λKK hK=>?_) AllReady.nil)
    .go_simp;refine hK _ _ ?_;clear hK KK;obtain⟨X2,MD⟩:=Ey (X1.alloc (.cells #[.int .i64 (s:Int)] 3));have S2:=S1.addL Ve (s:Int) rfl;have B2:=B1.trans ((ab X1 (.cells #[.int .i64 (s:Int)] 3)).mono Ve);rw[<-MD] at S2 B2 ⊢;have Ia:w.heap.size<=X2.heap.size:=B2.size;clear S1 MD;refine wpAny_ready (rs:=[7]) (by kernel_rfl) (by simp) (AllReady.cons rfl (λKK hK=>?_) AllReady.nil)
     .refine nZ rfl _ _ rfl w.heap.size (.slice aa an ac) _ As [(s:Int)] rfl rfl S2.Ug S2.litL (by simp;omega) Ia ?_;intro v' X3 nD nh sM tC;refine hK _ _ ?_;clear hK KK;have S3:=S2.appA nD sM tC;have B3:=B2.trans nh;have hX3:w.heap.size<=X3.heap.size:=B3.size;obtain⟨ea,en,ec,rfl⟩:=nD.at.shape;clear S2 nD nh sM tC;refine wpAny_ready (rs:=[15]) (by kernel_rfl) (by simp) (AllReady.cons rfl (λKK hK=>?_) AllReady.nil)
      .refine nZ rfl _ _ rfl w.heap.size (.slice ba bn bc) _ Bs [(t:Int)] rfl rfl S3.TU S3.litM (by simp;omega) hX3 ?_;intro v' X4 nD nh sM tC;refine hK _ _ ?_;clear hK KK;have S4:=S3.appB nD sM tC;have B4:=B3.trans nh;have hX4:w.heap.size<=X4.heap.size:=B4.size;obtain⟨fa,fn,fc,rfl⟩:=nD.at.shape;clear S3 nD nh sM tC;refine xg (i:=16) (v:=?_) (some 8) rfl rfl (by kernel_rfl) (by kernel_rfl) (by kernel_rfl) (λ_ _ _ h=>h) (Or.inl ⟨by rfl,?_⟩) ?_;rotate_left;.intro _;go_simp;try with_reducible rfl
       simp only[Act.put,List.setIfInBounds_toArray];refine xg (i:=17) (v:=?_) (some 9) rfl rfl (by kernel_rfl) (by kernel_rfl) (by kernel_rfl) (λ_ _ _ h=>h) (Or.inl ⟨by rfl,?_⟩) ?_;rotate_left;.intro _;go_simp;try with_reducible rfl
       simp only[Act.put];refine wpAny_done (by kernel_rfl) ?_ _;refine NoPanic.normal ?_;have hF:=S4.forget;rw[<-tA.out,<-tB.out] at hF;replace hF:=Hd hF;clear S4;go_wp2;go_roundw;case rel=>exact⟨i+1,_,_,by have:=td.out;omega,by go_num,rfl,rfl,hF.out,B4⟩
       case measure=>have:=td.out;simp[intOf];omega
  .obtain rfl:i=way.length:=by omega
   rw[List.take_length] at hS;have h1:=hS.Ug;have h2:=hS.TU;have h3:=hS.two;replace⟨hS,h1,h2,h3⟩:=gF hS h1 h2 h3;go_wp2;go_ret2;exact⟨_,_,rfl,hB,h1.out,h2.out,h3.out⟩
end Go.Proofs.YtgjfejfeoofkhaaGreatDoor
