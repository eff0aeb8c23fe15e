/-
  Parts of the proof: Rop. By an AI agent.
-/
import Derived.Test.YtcoiialmdncpfaaGreatDoorJ27
open Go.Proofs.Tryz
set_option maxRecDepth 100000
set_option maxHeartbeats 8000000
namespace Go.Proofs.YtcoiialmdncpfaaGreatDoor
section
open Go.RowKit Go.Lib Go.Proofs
attribute [local go_sem ↓] Go.wp_at_zero Go.wp_at_succ
attribute [local go_sem] aK aL aM aZ a6 a7 a8
def IW(E:bC)(w:World)(r:d5 (Nd×Bool))(e:Ending)(w':World):Prop:=
 match r with
 | .ok x s=>(∃v,e=.returned (.tuple #[v,.bool x.2])/\aq (fun b=>w.heap.size<=b) w' v x.1)/\au E s w w'
 | .fail p=>e=ag p/\w.grownBy w' (some E.R)
 | .out=>False
def EX(E:bC):Prop:=(∀t∈E.c.toks,t.kind=4->∀w,Mx E w->Calls prog 134 #[t.text] w fun e w'=>(∃v,e=.returned (.tuple #[.string (mU t.text),v]))/\Below w w w') /\
 (∀t∈E.c.toks,t.kind=5->∀w,Mx E w->Calls prog 135 #[t.text] w fun e w'=>(∃v,e=.returned (.tuple #[.string (lf t.text),v]))/\Below w w w')
theorem sH{E:bC}{w wk:World}{res:d5 (Nd×Bool)}{n:Nd}{bb:Bool}{s:St}{X:Nat->Prop}{a0 a1 a2 a3 z0 z1 z2 z3:Value}{g q rr:Nat}{fn:Func}{a:Act}(h:res=.ok (n,bb) s)
  (M:aq X wk (.agg #[a0,a1,a2,a3]) n)(x:au E s w wk)(hb:aa wk g 41 #[z0,z1,z2,z3])(y:w.heap.size<=g)(z:E.R<g)(J:∀b,X b->w.heap.size<=b/\b≠g)
  (I:fn.results = #[.cell q 41,.tmp rr])(O:a.tmps.getD q undef=.pointer (some ⟨g,0,none⟩))(D:a.tmps.getD rr undef=.bool bb)(hd:a.defers=[]):
  bodyPost prog fn (IW E w res) .ret a (cM wk g a0 a1 a2 a3):=by refine jD (pP I _ O D (cJ hb a0 a1 a2 a3)) hd ?_;rw[h];exact⟨⟨_,rfl,(M.kept (cA (fun b hb=>(J b hb).2) _ _ _ _)).mono fun b hb _=>(J b hb).1⟩,dI x y z _ _ _ _⟩
theorem rL{E:bC}{w w1 w2:World}{res:d5 (Nd×Bool)}{p:Int}(D:res=.fail p)(J:w.grownBy w1 (some E.R))(I:w1.grownBy w2 (some E.R)):IW E w res (ag p) w2:=by rw[D];exact⟨rfl,J.trans I⟩
theorem CH{w:World}{T:Nat}{t:TypeId}{a b c:Value}(h:aa w T t #[a,b,c]):w.cell? ⟨T,0,none⟩=some a/\w.cell? ⟨T,1,none⟩=some b/\w.cell? ⟨T,2,none⟩=some c:=
 ⟨(h.cell 0).trans rfl,(h.cell 1).trans rfl,(h.cell 2).trans rfl⟩
theorem Nj(E:bC)(i:Nat)(I:(aj E.c i).kind≠0):i<E.c.toks.length/\aj E.c i∈E.c.toks:=by
 rcases kN i E.c.toks.length with D|D
 ·refine⟨D,?_⟩;unfold aj;rw[gO D];exact jF D
 ·rw[mA E.c i D]at I;exact absurd rfl I
theorem tq(E:bC)(F:eQ)(hF:mC E F)(gy:EX E)(w:World)(s:St)(h:aH E w s)(gv:dW F E.c s≠.out):
  Calls prog 314 #[E.R] w (IW E w (dW F E.c s)):=by
 generalize hres:dW F E.c s=res at *;have g5:=hid gv;have gg:=h.lt;have hn:=h.most;have h6:=h.le;have gm:=hid (Nj E s.at_);have gi:=hid (show(if(aj E.c s.at_).kind=1 then .ok (.mk 18 (aj E.c s.at_).text [] (aj E.c s.at_).pos,true) (am { s with part :=-1 })
  else if(aj E.c s.at_).kind=4 then .ok (.mk 16 (mU (aj E.c s.at_).text) [] (aj E.c s.at_).pos,false) (am { s with part :=-1 })
  else if(aj E.c s.at_).kind=5 then .ok (.mk 17 (lf (aj E.c s.at_).text) [] (aj E.c s.at_).pos,false) (am { s with part :=-1 })
  else if aR E.c { s with part :=-1 } (⟨#[40]⟩:BA)then(bZ F.expr E.c (am { s with part :=-1 })).bind fun x s1=>(need ⟨#[41]⟩ E.c s1).bind fun _ s2=>.ok (x,false) s2
  else if aR E.c { s with part :=-1 } (⟨#[102,117,110,99]⟩:BA)then(dV F (aj E.c s.at_).pos (decide (s.part=(s.at_:Int))) E.c (am { s with part :=-1 })).bind fun x s1=>.ok (x,false) s1
  else if dG E.c { s with part :=-1 }then(iA F (decide (s.part=(s.at_:Int))) E.c { s with part :=-1 }).bind fun x s1=>.ok (x,false) s1
  else .fail (aj E.c s.at_).pos)=res from hres)
 clear hres gv;have hk:(s.part==(s.at_:Int))=decide (s.part=(s.at_:Int)):=Bool.beq_eq_decide_eq _ _;(go_enter func314,ntmps314);go_wp2_with fail;refine(bh E s _ (h.alloc _)).mono ?_;unfold eR;rintro e w1⟨rfl,gx⟩;have hf:=(((bX.refl h).alloc _).step gx).moved;have hi:=(aa.new w 41 bg).below gx (by simp);(have h3:w.heap.size+1<=w1.heap.size:=by have:=gx.size;simp at this;omega);clear gx;generalize hl:aj E.c s.at_=tk at *;generalize decide (s.part=(s.at_:Int))=types at *;have he:=aa.new w1 105 #[tk.kind,tk.text,tk.pos];have hh:=hi.alloc (.cells #[tk.kind,tk.text,tk.pos] 105);have g4:=hf.alloc (.cells #[tk.kind,tk.text,tk.pos] 105);(have g9:w1.heap.size+1<=(w1.alloc (.cells #[tk.kind,tk.text,tk.pos] 105)).heap.size:=by simp);(go_upto_region 2 with fail);generalize hTT:w1.heap.size=T at *;change Code.wp _ _ _ _ (w1.alloc (.cells #[tk.kind,tk.text,tk.pos] 105));generalize w1.alloc (.cells #[tk.kind,tk.text,tk.pos] 105)=w2 at *;(have h7:T≠w.heap.size:=by omega);(have gp:T≠E.R:=by omega);clear hTT hi hf;obtain⟨-,c1,-,-,c4,cf⟩:=g4.rd.cells;have f4:=cf 4;go_wp2_with fail;go_quiet (fail);have hc:=he.drewN nq;have hg:=hh.drewN nq;have g3:=g4.drewN nq;have g7:T+1<=(w2.drewN nq).heap.size:=g9;clear c1 c4 cf f4 he hh g4;generalize w2.drewN nq=w3 at *;obtain⟨-,-,-,-,c4,cf⟩:=g3.rd.cells;have f4:=cf 4;have gb:=hc.far (p:=⟨E.R,4,none⟩) gp (.int .i64 (-1));have ge:=hg.far (p:=⟨E.R,4,none⟩) (by show w.heap.size≠E.R;omega) (.int .i64 (-1));have M:=g3.setPart (-1);(go_upto_region 4 with fail);(have gz:T+1<=(w3.setCell ⟨E.R,4,none⟩ (.int .i64 (-1))).heap.size:=by simpa using g7);generalize w3.setCell ⟨E.R,4,none⟩ (.int .i64 (-1))=w4 at *;generalize hq:({ s with part :=-1 }:St)=q at *;(have g0:q.at_=s.at_:=by rw[<-hq]);clear hq f4 cf c4 hc hg g3 g7 g9;obtain⟨t0,t1,t2⟩:=CH gb;obtain⟨-,c1,-,-,-,cf⟩:=M.rd.cells;have f1:=cf 1;rw[g0]at c1;have g8:IntKind.i64.wrap ((s.at_:Int)+1)=(s.at_:Int)+1:=gQ _ (by omega);(have gl:({ q with at_:=s.at_+1 }:St)=am q:=by unfold am;rw[g0]);by_cases h1:tk.kind=1
 ·have HF:=hid (show res=.ok (.mk 18 tk.text [] tk.pos,true) (am q)by rw[<-gi.out,gL h1]);have k1:(tk.kind==1)=true:=beq_iff_eq.2 h1;have z:=gb.far (p:=⟨E.R,1,none⟩) gp (.int .i64 ((s.at_:Int)+1));have y:=ge.far (p:=⟨E.R,1,none⟩) (by show w.heap.size≠E.R;omega) (.int .i64 ((s.at_:Int)+1));have D:=M.setAt (s.at_+1) (by have:=(gm.out (by omega)).1;omega);rw[show((s.at_+1:Nat):Int)=(s.at_:Int)+1 from rfl,gl]at D;clear h1;(go_upto_region 6 with fail);(have gs:T+1<=(w4.setCell ⟨E.R,1,none⟩ (.int .i64 ((s.at_:Int)+1))).heap.size:=by simpa using gz);generalize w4.setCell ⟨E.R,1,none⟩ (.int .i64 ((s.at_:Int)+1))=w5 at *;clear t0 t1 t2 c1 cf f1 gb ge M;obtain⟨t0,t1,t2⟩:=CH z;go_wp2_with fail;refine(aI _ _ _ _ _ ⟨_,_,_,rfl⟩).mono ?_;rintro e w6⟨rfl,gh⟩;have O:=y.bl gh;have J:=D.step gh;obtain⟨d0,d1,d2,d3,e0,e1,e2,e3⟩:=ah O;go_wp2_with fail;exact sH (X:=fun _=>False) HF.out (aq.leaf 18 tk.text tk.pos) J O (gA _) gg (fun _ h=>h.elim) rfl (by rfl) (by rfl) rfl
 have k1:(tk.kind==1)=false:=beq_eq_false_iff_ne.2 h1;by_cases h4:tk.kind=4
 ·have HF:=hid (show res=.ok (.mk 16 (mU tk.text) [] tk.pos,false) (am q)by rw[<-gi.out,gE h1,gL h4]);have HL:=hid (gy.1 tk (gm.out (by omega)).2 h4);have k4:(tk.kind==4)=true:=beq_iff_eq.2 h4;have z:=gb.far (p:=⟨E.R,1,none⟩) gp (.int .i64 ((s.at_:Int)+1));have y:=ge.far (p:=⟨E.R,1,none⟩) (by show w.heap.size≠E.R;omega) (.int .i64 ((s.at_:Int)+1));have D:=M.setAt (s.at_+1) (by have:=(gm.out (by omega)).1;omega);rw[show((s.at_+1:Nat):Int)=(s.at_:Int)+1 from rfl,gl]at D;clear h4;(go_upto_region 9 with fail);(have gs:T+1<=(w4.setCell ⟨E.R,1,none⟩ (.int .i64 ((s.at_:Int)+1))).heap.size:=by simpa using gz);generalize w4.setCell ⟨E.R,1,none⟩ (.int .i64 ((s.at_:Int)+1))=w5 at *;clear t0 t1 t2 c1 cf f1 gb ge M;obtain⟨t0,t1,t2⟩:=CH z;go_wp2_with fail;refine(HL.out _ D.rd.old).mono ?_;rintro e w7⟨⟨v7,rfl⟩,gk⟩;have g2:=z.bl gk;have gd:=y.bl gk;have I:=D.step gk;clear t0 t1 t2;obtain⟨t0,t1,t2⟩:=CH g2;go_wp2_with fail;refine(aI _ _ _ _ _ ⟨_,_,_,rfl⟩).mono ?_;rintro e w6⟨rfl,gh⟩;have O:=gd.bl gh;have J:=I.step gh;obtain⟨d0,d1,d2,d3,e0,e1,e2,e3⟩:=ah O;go_wp2_with fail;exact sH (X:=fun _=>False) HF.out (aq.leaf 16 (mU tk.text) tk.pos) J O (gA _) gg (fun _ h=>h.elim) rfl (by rfl) (by rfl) rfl
 have k4:(tk.kind==4)=false:=beq_eq_false_iff_ne.2 h4;by_cases h5:tk.kind=5
 ·have HF:=hid (show res=.ok (.mk 17 (lf tk.text) [] tk.pos,false) (am q)by rw[<-gi.out,gE h1,gE h4,gL h5]);have HL:=hid (gy.2 tk (gm.out (by omega)).2 h5);have k5:(tk.kind==5)=true:=beq_iff_eq.2 h5;have z:=gb.far (p:=⟨E.R,1,none⟩) gp (.int .i64 ((s.at_:Int)+1));have y:=ge.far (p:=⟨E.R,1,none⟩) (by show w.heap.size≠E.R;omega) (.int .i64 ((s.at_:Int)+1));have D:=M.setAt (s.at_+1) (by have:=(gm.out (by omega)).1;omega);rw[show((s.at_+1:Nat):Int)=(s.at_:Int)+1 from rfl,gl]at D;clear h5;(go_upto_region 13 with fail);(have gs:T+1<=(w4.setCell ⟨E.R,1,none⟩ (.int .i64 ((s.at_:Int)+1))).heap.size:=by simpa using gz);generalize w4.setCell ⟨E.R,1,none⟩ (.int .i64 ((s.at_:Int)+1))=w5 at *;clear t0 t1 t2 c1 cf f1 gb ge M;obtain⟨t0,t1,t2⟩:=CH z;go_wp2_with fail;refine(HL.out _ D.rd.old).mono ?_;rintro e w7⟨⟨v7,rfl⟩,gk⟩;have g2:=z.bl gk;have gd:=y.bl gk;have I:=D.step gk;clear t0 t1 t2;obtain⟨t0,t1,t2⟩:=CH g2;go_wp2_with fail;refine(aI _ _ _ _ _ ⟨_,_,_,rfl⟩).mono ?_;rintro e w6⟨rfl,gh⟩;have O:=gd.bl gh;have J:=I.step gh;obtain⟨d0,d1,d2,d3,e0,e1,e2,e3⟩:=ah O;go_wp2_with fail;exact sH (X:=fun _=>False) HF.out (aq.leaf 17 (lf tk.text) tk.pos) J O (gA _) gg (fun _ h=>h.elim) rfl (by rfl) (by rfl) rfl
 have k5:(tk.kind==5)=false:=beq_eq_false_iff_ne.2 h5;have HR:=hid (show(if aR E.c q ⟨#[40]⟩then(bZ F.expr E.c (am q)).bind fun x s1=>(need ⟨#[41]⟩ E.c s1).bind fun _ s2=>.ok (x,false) s2
  else if aR E.c q ⟨#[102,117,110,99]⟩then(dV F tk.pos types E.c (am q)).bind fun x s1=>.ok (x,false) s1
  else if dG E.c q then(iA F types E.c q).bind fun x s1=>.ok (x,false) s1
  else .fail tk.pos)=res by rw[<-gi.out,gE h1,gE h4,gE h5])
 clear gi h1 h4 h5 gm c1 cf f1 g8 gl;go_wp2_with fail;cases hA:aR E.c q ⟨#[40]⟩with
 | true=>
  have HE:=hid (show((bZ F.expr E.c (am q)).bind fun x s1=>(need ⟨#[41]⟩ E.c s1).bind fun _ s2=>.ok (x,false) s2)=res by rw[<-HR.out,gL hA]);refine(aS E q _ _ M.rd hA).mono ?_;rintro e w5⟨rfl,gw⟩;have y:=ge.grown gw.gr;have D:=M.trans gw;have gs:=gw.gr.size;clear HR hA gb ge M gw t0 t1 t2;go_wp2_with fail;have HC:=hid (fun gv=>BC E 207 #[E.R] #[] F.expr (am q) w5 D.rd (fun a w=>by kernel_rfl) (show eu E 207 (#[.pointer (some ⟨E.R,0,none⟩)] ++ #[]) F.expr w5 from hF.expr.part w5) gv);cases hP:bZ F.expr E.c (am q)with
  |out=>exact absurd HE.out.symm (by rw[hP];exact g5.out)
  |fail p=>refine(HC.out (by rw[hP];exact nofun)).mono ?_;rw[hP];rintro e w6⟨rfl,hr⟩;unfold ag;exact⟨rfl,rL (by rw[<-HE.out,hP];rfl) D.gr hr⟩
  |ok n s1=>
   have hj:=hid (show((need ⟨#[41]⟩ E.c s1).bind fun _ s2=>.ok (n,false) s2)=res by rw[<-HE.out,hP];rfl);refine(HC.out (by rw[hP];exact nofun)).mono ?_;rw[hP];rintro e w6⟨⟨v,rfl,hv⟩,ga⟩;obtain⟨A6,c6,rfl,-⟩:=hv.toC;have gd:=(y.grown ga.gr).alloc (.cells (nv n A6 c6) 41);have I:=(D.trans ga).alloc (.cells (nv n A6 c6) 41);have hu:=aa.new w6 41 (nv n A6 c6);have g6:=ga.gr.size;have hy:=hv.keep (w':=w6.alloc (.cells (nv n A6 c6) 41)) fun b _ hlt=>gS w6 _ b hlt;clear HC HE hP y D hv ga;(go_upto_region 17 with fail);change Code.wp _ _ _ _ (w6.alloc (.cells (nv n A6 c6) 41));generalize hXX:w6.heap.size=X at *;generalize w6.alloc (.cells (nv n A6 c6) 41)=w7 at *;(have hs:X≠E.R:=by omega);go_wp2_with fail;cases hB:aR E.c s1 ⟨#[41]⟩with
   |false=>refine(dN E s1 _ _ I.rd hB).mono ?_;rintro e w8⟨rfl,g1⟩;unfold ag;exact⟨rfl,rL (by rw[<-hj.out,need,gE (by rw[hB];decide)];rfl) I.gr (ac _ g1)⟩
   |true=>have HF:=hid (show res=.ok (n,false) (am s1)by rw[<-hj.out,need,gL hB];rfl);refine(cW E s1 _ _ I.rd hB).mono ?_;rintro e w8⟨rfl,gj⟩;have gq:=gd.grown gj.gr;have ht:=hu.grown gj.gr (fun e=>hs (by injection e));have h0:=I.trans gj;have hw:=hy.keep (w':=w8) (ak.of_grown (X:=fun b=>w5.heap.size<=b) gj.gr).block;obtain⟨x0,x1,x2,x3,-,-,-,-⟩:=ah ht;obtain⟨d0,d1,d2,d3,e0,e1,e2,e3⟩:=ah gq;go_wp2_with fail;refine sH HF.out hw h0 gq (gA _) gg ?_ rfl (by rfl) (by rfl) rfl;intro b hb;constructor<;>omega
 | false=>
  refine(aW E q _ _ M.rd hA).mono ?_;rintro e w5⟨rfl,gn⟩;have z:=gb.bl gn.bel;have y:=ge.bl gn.bel;have D:=M.trans gn.moved;have gs:=gn.bel.size;clear gb ge M gn t0 t1 t2;obtain⟨t0,t1,t2⟩:=CH z;go_wp2_with fail;cases hB:aR E.c q ⟨#[102,117,110,99]⟩with
  |true=>
   have HE:=hid (show((dV F tk.pos types E.c (am q)).bind fun x s1=>.ok (x,false) s1)=res by rw[<-HR.out,gE (by rw[hA];decide),gL hB]);refine(aS E q _ _ D.rd hB).mono ?_;rintro e w6⟨rfl,ga⟩;have hz:=z.grown ga.gr (fun e=>gp (by injection e));have O:=y.grown ga.gr;have J:=D.trans ga;have g6:=ga.gr.size;clear HR hA hB z y D ga t0 t1 t2;obtain⟨t0,t1,t2⟩:=CH hz;go_wp2_with fail;cases hP:dV F tk.pos types E.c (am q)with
   |out=>exact absurd HE.out.symm (by rw[hP];exact g5.out)
   |fail p=>refine(rK E F hF tk.pos types _ _ J.rd (by rw[hP];exact nofun)).mono ?_;rw[hP];rintro e w7⟨rfl,hp⟩;unfold ag;exact⟨rfl,rL (by rw[<-HE.out,hP];rfl) J.gr hp⟩
   |ok n s1=>have HF:Hid (res=.ok (n,false) s1):=hid (by rw[<-HE.out,hP];rfl);refine(rK E F hF tk.pos types _ _ J.rd (by rw[hP];exact nofun)).mono ?_;rw[hP];rintro e w7⟨⟨v,rfl,hv⟩,ha⟩;obtain⟨A7,c7,rfl,-⟩:=hv.toC;have gd:=O.grown ha.gr;obtain⟨d0,d1,d2,d3,e0,e1,e2,e3⟩:=ah gd;go_wp2_with fail;refine sH HF.out hv (J.trans ha) gd (gA _) gg ?_ rfl (by rfl) (by rfl) rfl;intro b hb;constructor<;>omega
  | false=>
   refine(aW E q _ _ D.rd hB).mono ?_;rintro e w6⟨rfl,gu⟩;have O:=y.bl gu.bel;have J:=D.trans gu.moved;have g6:=gu.bel.size;clear z y D gu t0 t1 t2;go_wp2_with fail;refine(oF E q _ J.rd).mono ?_;rintro e w7⟨rfl,gt⟩;have gd:=O.bl gt.bel;have I:=J.trans gt.moved;have h2:=gt.bel.size;clear O J gt;cases hC:dG E.c q with
   |true=>
    have HE:=hid (show((iA F types E.c q).bind fun x s1=>.ok (x,false) s1)=res by rw[<-HR.out,gE (by rw[hA];decide),gE (by rw[hB];decide),gL hC]);go_wp2_with fail;cases hP:iA F types E.c q with
    |out=>exact absurd HE.out.symm (by rw[hP];exact g5.out)
    |fail p=>refine(wm E F hF types _ q I.rd (by rw[hP];exact nofun)).mono ?_;rw[hP];rintro e w8⟨rfl,ho⟩;unfold ag;exact⟨rfl,rL (by rw[<-HE.out,hP];rfl) I.gr ho⟩
    |ok n s1=>have HF:Hid (res=.ok (n,false) s1):=hid (by rw[<-HE.out,hP];rfl);refine(wm E F hF types _ q I.rd (by rw[hP];exact nofun)).mono ?_;rw[hP];rintro e w8⟨⟨v,rfl,hv⟩,gj⟩;obtain⟨A8,c8,rfl,-⟩:=hv.toC;have gq:=gd.grown gj.gr;obtain⟨d0,d1,d2,d3,e0,e1,e2,e3⟩:=ah gq;go_wp2_with fail;refine sH HF.out hv (I.trans gj) gq (gA _) gg ?_ rfl (by rfl) (by rfl) rfl;intro b hb;constructor<;>omega
   |false=>(have hm:ar E.c q=tk.pos:=by unfold ar;rw[g0,hl]);go_wp2_with fail;refine(dh E q _ I.rd).mono ?_;rintro e w8⟨rfl,g1⟩;unfold ag;exact⟨rfl,rL (by rw[<-HR.out,gE (by rw[hA];decide),gE (by rw[hB];decide),gE (by rw[hC];decide),hm]) I.gr (ac _ g1)⟩
end
end Go.Proofs.YtcoiialmdncpfaaGreatDoor
