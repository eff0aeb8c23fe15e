/-
  Parts of the proof: Rlit Rslices Rnamed Rfun. By an AI agent.
-/
import Derived.Test.YtiebcdeafofgdaaGreatDoorJ25
import Derived.BigQuiet
import Derived.Defers
import Derived.Recover
import Derived.IntWalk
open Go.Proofs.Tryz
set_option maxRecDepth 100000
set_option maxHeartbeats 8000000
namespace Go.Proofs.YtiebcdeafofgdaaGreatDoor
section
open Go.RowKit Go.Lib Go.Proofs
attribute [local go_sem ↓] Go.wp_at_zero Go.wp_at_succ
attribute [local go_sem] aV aW aX bv bw bz bA
def TG(E:cy)(F:iE):Prop:=
 ∀ (w0 w:World)(s:St)(x:Nd)(v:Value),E.R<w0.heap.size->w0.grownBy w (some E.R)->aU E w s->af (fun b=>w0.heap.size<=b) w v x->dc F x E.c s≠.out ->
   Calls prog 190 #[E.R,v] w (uB E w0 w (dc F x E.c s))
theorem tC(E:cy)(F:iE)(hF:pw E F):TG E F:=by
 intro w0 w s x v hR0 hgr0 h hv hno;obtain⟨A,cp,rfl,hC⟩:=hv.toC;generalize hres:dc F x E.c s=res at *;have gb:=hid (show(ci ⟨#[123]⟩ E.c s).bind (fun _ s1=>(ct (a6 F.expr ⟨#[125]⟩ F.g []) E.c s1).bind fun l s2=>.ok (.mk 24 ⟨#[]⟩ (x::l) x.pos) s2)=res from hres);have ha:=hid hno;have hq:=h.lt;have hh:=hgr0.size;have hC:=hC.mono (Y:=fun b=>w0.heap.size<=b/\b<w.heap.size) (fun b hb M=>⟨hb,M⟩);have h1:=hF.g;clear hres hno hv;have gg:Below w w (((w.alloc (.cells #[E.R] 52)).alloc (.cells (nv x A cp) 24)).alloc (.cells bP 24)):=bel;have gj:an (((w.alloc (.cells #[E.R] 52)).alloc (.cells (nv x A cp) 24)).alloc (.cells bP 24)) w.heap.size 52 #[E.R]:=((an.new w _ _).alloc _).alloc _;have gs:an (((w.alloc (.cells #[E.R] 52)).alloc (.cells (nv x A cp) 24)).alloc (.cells bP 24)) (w.heap.size+1) 24 (nv x A cp):=(an.new_at (by simp) _ _).alloc _;have g6:an (((w.alloc (.cells #[E.R] 52)).alloc (.cells (nv x A cp) 24)).alloc (.cells bP 24)) (w.heap.size+1+1) 24 bP:=an.new_at (by simp) _ _;have gi:=(aw.refl h).step gg;(have hz:w.heap.size+3<=(((w.alloc (.cells #[E.R] 52)).alloc (.cells (nv x A cp) 24)).alloc (.cells bP 24)).heap.size:=by simp);have hC:=hC.keep (w':=((w.alloc (.cells #[E.R] 52)).alloc (.cells (nv x A cp) 24)).alloc (.cells bP 24)) (fun b _ M=>gg.block b M);clear gg;(go_enter func190,ntmps190);(go_upto_region 1 with fail);change Code.wp _ _ _ _ (((w.alloc (.cells #[E.R] 52)).alloc (.cells (nv x A cp) 24)).alloc (.cells bP 24));generalize((w.alloc (.cells #[E.R] 52)).alloc (.cells (nv x A cp) 24)).alloc (.cells bP 24)=w1 at *;have c0:=yy gj;go_wp2_with fail;cases hA:aS E.c s ⟨#[123]⟩with
 |false=>exact absurd (show res=.out by rw[<-gb.out,ci];simp[hA]) ha.out
 | true=>
  have HE:=hid (show(ct (a6 F.expr ⟨#[125]⟩ F.g []) E.c (adv s)).bind (fun l s2=>.ok (.mk 24 ⟨#[]⟩ (x::l) x.pos) s2)=res by rw[<-gb.out,ci];simp only[hA,kW,cC.bind_ok]);refine(dU E s _ _ gi.rd hA).mono ?_;rintro e U⟨rfl,J⟩;have g9:=gj.grown J.gr;have gq:=gs.grown J.gr;have g5:=g6.grown J.gr;have gx:=gi.trans J;have hy:=J.gr.size;have hC:=hC.keep (w':=U) (ar.of_grown (X:=fun b=>w0.heap.size<=b/\b<w.heap.size) J.gr).block;clear gb hA gj gs g6 gi J c0;obtain⟨x0,x1,x2,x3,-,-,-,-⟩:=ab gq;go_wp2_with fail;refine(aQ _ _ _ _ _ ⟨_,_,_,rfl⟩).mono ?_;rintro e N⟨rfl,gd⟩;have I:Below U U N:=((gG _ U).alloc (gA _) _).trans (gd.mono (by simp));have g1:=(an.new U 24 (nv x A cp)).below gd (by simp);have g8:=g9.bl I;have g4:=g5.bl I;have gw:=gx.step I;(have hw:U.heap.size+1<=N.heap.size:=by have:=gd.size;simp at this;omega);have hC:=hC.keep (w':=N) (fun b _ M=>I.block b M);clear gd I g9 g5 gq gx x0 x1 x2 x3;(go_upto_region 3 with fail);have D:=(aj N #[.int .i64 24,.string ⟨#[]⟩,.slice (some ⟨U,0,none⟩) 1 1,.int .i64 x.pos]).1;have gh:=an.new N 24 #[.int .i64 24,.string ⟨#[]⟩,.slice (some ⟨U,0,none⟩) 1 1,.int .i64 x.pos];have g0:=g1.bl D;have g7:=g8.bl D;have g3:=g4.bl D;have gv:=gw.step D;have hC:=hC.keep (w':=N.alloc (.cells #[.int .i64 24,.string ⟨#[]⟩,.slice (some ⟨U,0,none⟩) 1 1,.int .i64 x.pos] 24)) (fun b _ M=>D.block b M);(have hu:N.heap.size+1<=(N.alloc (.cells #[.int .i64 24,.string ⟨#[]⟩,.slice (some ⟨U,0,none⟩) 1 1,.int .i64 x.pos] 24)).heap.size:=by simp);clear g1 g8 g4 gw D;generalize hKK:U.heap.size=K at *;generalize hOO:N.heap.size=O at *;change Code.wp _ _ _ _ (N.alloc (.cells #[.int .i64 24,.string ⟨#[]⟩,.slice (some ⟨K,0,none⟩) 1 1,.int .i64 x.pos] 24));generalize N.alloc (.cells #[.int .i64 24,.string ⟨#[]⟩,.slice (some ⟨K,0,none⟩) 1 1,.int .i64 x.pos] 24)=w6 at *;clear hKK hOO;(have gy:K≠O:=by omega);(have hl:K≠E.R:=by omega);(have hk:O≠E.R:=by omega);(have gt:O≠w.heap.size+1+1:=by omega);(have gz:K≠w.heap.size+1+1:=by omega);have ho:Hid (sH E 224 (#[] ++ #[.pointer (some ⟨w,0,none⟩)]) (a6 F.expr ⟨#[125]⟩ F.g []) w6.drew):=hid (Ce E F hF w.heap.size w6.drew (show w6.drew.cell? ⟨w,0,none⟩=_ from yy g7) (by omega));(have ge:∀a w,(callFunc 224 a).run prog w=.ok (.enter 224 a) w:=fun a w=>by kernel_rfl);have hp:=hid ge;clear ge;have c0:=yy g7;obtain⟨x0,x1,x2,x3,gn,gm,gl,gk⟩:=ab gh;cases hQ:ct (a6 F.expr ⟨#[125]⟩ F.g []) E.c (adv s)with
  |out=>exact absurd HE.out.symm (by rw[hQ];exact ha.out)
  | ok l s2=>
   have HF:Hid (res=.ok (.mk 24 ⟨#[]⟩ (x::l) x.pos) s2):=hid (by rw[<-HE.out,hQ];rfl);have h0:=oU hQ;have HC:=hid (pu E 224 #[] #[w] (a6 F.expr ⟨#[125]⟩ F.g []) (adv s) _ gv.drew.rd hp.out ho.out (by rw[hQ];exact nofun));rw[hQ]at HC;obtain⟨i0,hi,hf,he,hc⟩:=qO oK;clear HE hQ;go_region_law (first
    |(refine fc _ (by rfl) (.tmp 14) (.tmp 17) 22 (by rfl) K 24 i0 _ 4 56 underlying22 hi hf he hc (by rfl) (by omega) (.slice (some ⟨K,0,none⟩) 1 1) 1 [.int .i64 x.kind,.string x.text,.slice A x.kids.length cp,.int .i64 x.pos] (by rfl) (nV hn (gA _)) w7.heap.size A7 l.length c7 ys (by rfl) (nu hj (by omega)) (iB gp) (by unfold maxLen;omega) (by omega) (by omega) ?_;intro v8 w8 hown8 hg8 hat8;obtain⟨A8,c8,rfl,h2⟩:=oV hown8;have hm:=gu.grown hg8 (fun e=>gy (by simpa[Value.ownBlock]using e.symm));obtain⟨x0,x1,x2,x3,gn,gm,gl,gk⟩:=ab hm)
    |(go_simp;(go_at_call 185);refine HC.out.mono ?_;rintro e w7⟨⟨v7,rfl,hg⟩,ga⟩;obtain⟨A7,c7,ys,rfl,hr,hj,gp⟩:=hg;have gu:=gh.drew.grown ga.gr (fun e=>hk (by injection e));have hn:=g0.drew.grown ga.gr (fun e=>hl (by injection e));have ht:w6.heap.size<=w7.heap.size:=ga.gr.size;obtain⟨x0,x1,x2,x3,gn,gm,gl,gk⟩:=ab gu))
   all_goals have hN:=Lq (G:=w.heap.size+1+1) (u:=.slice A8 (1+l.length) c8) (o:=2) gv hC hh hR0 (by omega) g0.lt gh.lt (by omega) gy g3.lt (by omega) gz gt ga gp hown8 hg8 hat8 24 ⟨#[]⟩ x.pos;have g2:=((g3.drew.grown ga.gr).grown hg8 (fun e=>gz (by simpa[Value.ownBlock]using e.symm))).far (p:=⟨O,2,none⟩) (by exact gt.symm) (.slice A8 (1+l.length) c8);obtain⟨d0,d1,d2,d3,e0,e1,e2,e3⟩:=ab g2;go_wp2_with fail;refine ma HF.out hN.1 hN.2 g2 (by omega) (by omega) ?_ rfl (by rfl) rfl;intro b hb;exact⟨hb.1,hb.2.1⟩
theorem DW(E:cy)(F:iE)(hF:pw E F)(types:Bool)(w:World)(s:St)(h:aU E w s)(gq:ij F types E.c s≠.out):
  Calls prog 223 #[E.R,.bool types] w (pO E w (ij F types E.c s)):=by
 generalize D:ij F types E.c s=res at *;have gg:=hid (show(F.typ E.c s).bind (fun t s1=>if types&&iv E.c s1 then .ok t s1 else dc F t E.c s1)=res from D);have gh:=hid gq;have ga:=h.lt;clear D gq;have gi:=(aw.refl h).alloc (.cells bP 24);have gw:=an.new w 24 bP;(have g3:w.heap.size+1<=(w.alloc (.cells bP 24)).heap.size:=by simp);(go_enter func223,ntmps223);go_wp2_with fail;change Calls _ _ _ (w.alloc (.cells bP 24)) _;cases hP:F.typ E.c s with
 |out=>exact absurd gg.out.symm (by rw[hP];exact gh.out)
 | ok n s1=>
  have M:=hid (show(if types&&iv E.c s1 then .ok n s1 else dc F n E.c s1)=res by rw[<-gg.out,hP];rfl);refine(hF.typ _ s gi.rd (by rw[hP];exact nofun)).mono ?_;rw[hP];rintro e w3⟨⟨v,rfl,hv⟩,U⟩;obtain⟨A3,c3,rfl,gz⟩:=hv.toC;have gv:=gw.grown U.gr;have gu:=gi.trans U;have g2:=U.gr.size;have I:=(aj w3 (nv n A3 c3)).1;have gk:=an.new w3 24 (nv n A3 c3);have gd:=gu.step I;have gj:=gv.bl I;have gl:=hv.keep (w':=w3.alloc (.cells (nv n A3 c3) 24)) fun b _ hlt=>I.block b hlt;have gb:=U.gr.trans (de (some E.R) I);have g1:=I.size;clear hP gg hv gz gu gv gw U I;(go_upto_region 2 with fail);change Code.wp _ _ _ _ (w3.alloc (.cells (nv n A3 c3) 24));generalize hXX:w3.heap.size=X at *;generalize w3.alloc (.cells (nv n A3 c3) 24)=w4 at *;clear hXX;obtain⟨x0,x1,x2,x3,-,-,-,-⟩:=ab gk;obtain⟨d0,d1,d2,d3,e0,e1,e2,e3⟩:=ab gj;cases types with
  |false=>
   have HF:Hid (dc F n E.c s1=res):=hid M.out;clear M d0 d1 d2 d3 e0 e1 e2 e3;go_wp2_with fail;refine(tC E F hF (w.alloc (.cells bP 24)) w4 s1 n _ gi.rd.lt gb gd.rd gl (by rw[HF.out];exact gh.out)).mono ?_;rw[HF.out];unfold uB;cases D:res with
   |out=>exact absurd D gh.out
   |ok n5 s5=>rintro e w6⟨⟨v6,rfl,N⟩,O⟩;obtain⟨A6,c6,rfl,gy⟩:=N.toC;have ge:=gj.grown O.gr;have gm:=gd.trans O;obtain⟨d0,d1,d2,d3,e0,e1,e2,e3⟩:=ab ge;go_wp2_with fail;refine aC (by first|rfl|exact D) N gm ge (gA _) ga ?_ rfl (by rfl) rfl;intro b hb;constructor<;>omega
  | true=>
   go_wp2_with fail;refine(ul E s1 _ gd.rd).mono ?_;rintro e w5⟨rfl,J⟩;have gp:=gj.bl J.bel;have gx:=gk.bl J.bel;have gn:=gd.trans J.moved;have gt:=gl.keep (w':=w5) fun b _ hlt=>J.bel.block b hlt;have gs:=gb.trans (de (some E.R) J.bel);have g0:=J.bel.size;clear x0 x1 x2 x3 d0 d1 d2 d3 e0 e1 e2 e3 gj gk gd gl gb J;obtain⟨x0,x1,x2,x3,-,-,-,-⟩:=ab gx;cases hE:iv E.c s1 with
   |true=>have HF:Hid (res=.ok n s1):=hid (by rw[<-M.out,hE];rfl);obtain⟨d0,d1,d2,d3,e0,e1,e2,e3⟩:=ab gp;clear M hE;go_wp2_with fail;refine aC HF.out gt gn gp (gA _) ga ?_ rfl (by rfl) rfl;intro b hb;constructor<;>omega
   |false=>
    have HF:Hid (dc F n E.c s1=res):=hid (by rw[<-M.out,hE];rfl);clear M hE;go_wp2_with fail;refine(tC E F hF (w.alloc (.cells bP 24)) w5 s1 n _ gi.rd.lt gs gn.rd gt (by rw[HF.out];exact gh.out)).mono ?_;rw[HF.out];unfold uB;cases D:res with
    |out=>exact absurd D gh.out
    |ok n5 s5=>rintro e w6⟨⟨v6,rfl,N⟩,O⟩;obtain⟨A6,c6,rfl,gy⟩:=N.toC;have ge:=gp.grown O.gr;have gm:=gn.trans O;obtain⟨d0,d1,d2,d3,e0,e1,e2,e3⟩:=ab ge;go_wp2_with fail;refine aC (by first|rfl|exact D) N gm ge (gA _) ga ?_ rfl (by rfl) rfl;intro b hb;constructor<;>omega
end
section
open Go.RowKit Go.Lib Go.Proofs
attribute [local go_sem ↓] Go.wp_at_zero Go.wp_at_succ
attribute [local go_sem] aV aW aX
theorem lx{E:cy}{s:St}{w w':World}(h:aU E w s)(D:w.grownBy w' (some E.R))(h':aU E w' s):Below w w w':=
 ⟨D.os,D.tape,D.output,D.size,fun b hb=>by
  by_cases e:b=E.R
  ·subst e;exact Eq.trans (show w'.heap[E.R]? = _ from h'.blk) (show w.heap[E.R]? = _ from h.blk).symm
  ·exact D.block b hb (fun e'=>e (by injection e'))⟩
theorem r5(E:cy)(s:St)(n:Nat)(D:n<=E.c.toks.length)(K B:Nat)(w:World)(h:aU E w s)(k0:w.cell? ⟨K,0,none⟩=some (.int .i64 (n:Int)))(b0:w.cell? ⟨B,0,none⟩=some (.pointer (some ⟨E.R,0,none⟩))):
  CallsD prog 240 #[K,B] .returning w fun e u' w'=>u'=.returning/\(e=.returned (.tuple #[])/\aw E { s with at_:=n } w w'):=by obtain⟨c0,c1,-,-,-,cf⟩:=h.cells;have I:=h.lt;have f1:=cf 1;have J:=(aw.refl h).setAt n D;clear h;(go_enter_d func240,ntmps240);go_wp2_with fail;exact⟨rfl,_,qj rfl _ _ _,rfl,J⟩
theorem DX(E:cy)(s:St)(w:World)(h:aU E w s):Calls prog 237 #[E.R] w fun e w'=>e=.returned (.bool (iH E.c s))/\Below w w w':=by
 have hi:∀(fn:Fn)(first cap:Array Value)(w:World),(Instr.makeFunc fn first cap).run prog w=.ok (.func fn first cap) w:=fun _ _ _ _=>rfl;have g9:=h.most;have hf:=h.lt;have H:=hid h;have ge:Below w w (w.alloc (.cells #[E.R] 52)):=(gG _ _).alloc (gA _) _;have gp:=an.new w 52 #[E.R];have h0:=h.alloc (.cells #[E.R] 52);(have gq:w.heap.size+1=(w.alloc (.cells #[E.R] 52)).heap.size:=by simp);have b0:=a7 gp;obtain⟨c0,c1,-,-,-,-⟩:=h0.cells;have g2:IntKind.i64.wrap ((s.at_:Int)+2)=(s.at_:Int)+2:=gQ _ (by have:=h.le;omega);have g1:IntKind.i64.wrap ((s.at_:Int)+1)=(s.at_:Int)+1:=gQ _ (by have:=h.le;omega);by_cases hA:s.at_+2<E.c.toks.length
 case neg=>(have hN:iH E.c s=false:=by unfold iH;rw[gM hA];rfl);rw[hN];(have g3:decide ((s.at_:Int)+2>=(E.c.toks.length:Int))=true:=by rw[gK];omega);(have he:(E.c.toks.length:Int)<=(s.at_:Int)+2:=by omega);clear hN H h h0;(go_enter_defers func237,ntmps237);go_wp2_with fail;go_quiet (fail);go_wp2_with fail;simp[bodyPostD,Leaves,results,results237,go_sem];exact bg ge nq
 obtain⟨b,off,eA,hj,t0,t1,t2⟩:=h0.tok (s.at_+1) (by omega);rw[eA]at c0;(have g3:decide ((s.at_:Int)+2>=(E.c.toks.length:Int))=false:=by rw[gJ];omega);(have he:¬ ((E.c.toks.length:Int)<=(s.at_:Int)+2):=by omega);(have g4:(0:Int)<=(s.at_:Int)+1:=by omega);(have g5:(s.at_:Int)+1<(E.c.toks.length:Int):=by omega);(have g6:((s.at_:Int)+1).toNat=s.at_+1:=by omega);by_cases hK:(ay E.c (s.at_+1)).kind=1
 case neg=>(have hN:iH E.c s=false:=by unfold iH;rw[jO hA,beq_eq_false_iff_ne.2 hK];rfl);rw[hN];(have g7:((ay E.c (s.at_+1)).kind != 1)=true:=by rw[kZ];exact hK);(have g8:((ay E.c (s.at_+1)).kind==1)=false:=by rw[gC];exact hK);generalize ay E.c (s.at_+1)=tk at *;clear hN H h h0;(go_enter_defers func237,ntmps237);go_wp2_with fail;go_quiet (fail);go_wp2_with fail;simp[bodyPostD,Leaves,results,results237,go_sem];exact bg ge nq
 (have g7:((ay E.c (s.at_+1)).kind != 1)=false:=by rw[hK];rfl);(have g8:((ay E.c (s.at_+1)).kind==1)=true:=by rw[hK];rfl);(have hN:iH E.c s=((ay E.c (s.at_+2)).kind==1||(aS E.c { s with at_:=s.at_+2 } (⟨#[102,117,110,99]⟩:BA)||(aS E.c { s with at_:=s.at_+2 } (⟨#[40]⟩:BA)||dE E.c { s with at_:=s.at_+2 }))):=by unfold iH;rw[jO hA,g8];rfl);rw[hN];clear hN;generalize ay E.c (s.at_+1)=tk at *;generalize hq:({ s with at_:=s.at_+2 }:St)=q at *;have D:=hid hq;(have gz:q.at_=s.at_+2:=by rw[<-hq]);clear hq;(go_enter_defers func237,ntmps237);go_wp2_with fail;go_quiet (fail);have gn:=gp.drewN nq;have gi:=((aw.refl H.out).alloc (.cells #[E.R] 52)).drewN nq;have hh:w.heap.size+1=((w.alloc (.cells #[E.R] 52)).drewN nq).heap.size:=gq;(have J:s.at_<=E.c.toks.length:=by omega);clear h h0 b0 c0 c1 t0 t1 t2 ge gq gp;generalize(w.alloc (.cells #[E.R] 52)).drewN nq=w1 at *;have b1:=a7 gn;obtain⟨-,c1,-,-,-,-⟩:=gi.rd.cells;(go_upto_region 4 with fail);have gm:=gn.alloc (.cells #[.int .i64 (s.at_:Int)] 3);have gw:=an.new w1 3 #[.int .i64 (s.at_:Int)];have gh:=gi.alloc (.cells #[.int .i64 (s.at_:Int)] 3);(have hg:w1.heap.size+1=(w1.alloc (.cells #[.int .i64 (s.at_:Int)] 3)).heap.size:=by simp);clear b1 c1 gn gi;change Code.wp _ _ _ _ (w1.alloc (.cells #[.int .i64 (s.at_:Int)] 3));generalize hKK:w1.heap.size=K at *;generalize w1.alloc (.cells #[.int .i64 (s.at_:Int)] 3)=w2 at *;clear hKK;have b2:=a7 gm;obtain⟨-,c1,-,-,-,cf⟩:=gh.rd.cells;have f1:=cf 1;have gy:=gm.far (p:=⟨E.R,1,none⟩) (by show w.heap.size≠E.R;omega) (.int .i64 ((s.at_:Int)+2));have hc:=gw.far (p:=⟨E.R,1,none⟩) (by show K≠E.R;omega) (.int .i64 ((s.at_:Int)+2));have gg:=gh.setAt (s.at_+2) (by omega);rw[show((s.at_+2:Nat):Int)=(s.at_:Int)+2 from rfl,D.out]at gg;have b3:=a7 gy;(go_upto_region 6 with fail);generalize w2.setCell ⟨E.R,1,none⟩ (.int .i64 ((s.at_:Int)+2))=w3 at *;clear c1 cf f1 b2 gm gw gh;go_wp2_with fail;refine(b8 E q w3 gg.rd).mono ?_;unfold iI;rw[gz];rintro e w4⟨rfl,U⟩;have gl:=gy.bl U;have gv:=hc.bl U;have gd:=gg.step U;have b4:=a7 gl;clear b3;cases h1:((ay E.c (s.at_+2)).kind==1)with
 |true=>clear U;go_wp2_with fail;refine leaves_cons (f:=240) (args:=#[K,w]) (by simp) (by simp[go_sem]) ?_;refine(r5 E q s.at_ J K w.heap.size _ gd.rd (a7 gv) (a7 gl)).mono ?_;rintro e u' w10⟨rfl,rfl,I⟩;simp[Leaves,settle,results,results237,go_sem];exact⟨.inl (beq_iff_eq.1 h1),lx H.out (gd.gr.trans I.gr) (by have:=I.rd;rw[<-D.out]at this;exact this)⟩
 | false=>
  go_wp2_with fail;refine(bU E q ⟨#[102,117,110,99]⟩ w4 gd.rd).mono ?_;rintro e w5⟨rfl,O⟩;have gk:=gl.bl O;have gu:=gv.bl O;have gb:=gd.step O;have b5:=a7 gk;clear b4;cases h2:aS E.c q ⟨#[102,117,110,99]⟩with
  |true=>clear O;go_wp2_with fail;refine leaves_cons (f:=240) (args:=#[K,w]) (by simp) (by simp[go_sem]) ?_;refine(r5 E q s.at_ J K w.heap.size _ gb.rd (a7 gu) (a7 gk)).mono ?_;rintro e u' w10⟨rfl,rfl,I⟩;simp[Leaves,settle,results,results237,go_sem];exact⟨.inr (.inl h2),lx H.out (gb.gr.trans I.gr) (by have:=I.rd;rw[<-D.out]at this;exact this)⟩
  |false=>
   go_wp2_with fail;refine(bU E q ⟨#[40]⟩ w5 gb.rd).mono ?_;rintro e w6⟨rfl,N⟩;have gj:=gk.bl N;have gt:=gu.bl N;have ga:=gb.step N;have b6:=a7 gj;clear b5;cases h3:aS E.c q ⟨#[40]⟩with
   |true=>clear N;go_wp2_with fail;refine leaves_cons (f:=240) (args:=#[K,w]) (by simp) (by simp[go_sem]) ?_;refine(r5 E q s.at_ J K w.heap.size _ ga.rd (a7 gt) (a7 gj)).mono ?_;rintro e u' w10⟨rfl,rfl,I⟩;simp[Leaves,settle,results,results237,go_sem];exact⟨.inr (.inr (.inl h3)),lx H.out (ga.gr.trans I.gr) (by have:=I.rd;rw[<-D.out]at this;exact this)⟩
   |false=>go_wp2_with fail;refine(pv E q w6 ga.rd).mono ?_;rintro e w7⟨rfl,g0⟩;have M:=g0.bel;have gx:=gj.bl M;have ha:=gt.bl M;have gs:=ga.step M;have b7:=a7 gx;clear b6;clear M;go_wp2_with fail;refine leaves_cons (f:=240) (args:=#[K,w]) (by simp) (by simp[go_sem]) ?_;refine(r5 E q s.at_ J K w.heap.size _ gs.rd (a7 ha) (a7 gx)).mono ?_;rintro e u' w10⟨rfl,rfl,I⟩;simp[Leaves,settle,results,results237,go_sem];exact⟨by rw[h1,h2,h3];rfl,lx H.out (gs.gr.trans I.gr) (by have:=I.rd;rw[<-D.out]at this;exact this)⟩
end
section
open Go.RowKit Go.Lib Go.Proofs
attribute [local go_sem ↓] Go.wp_at_zero Go.wp_at_succ
attribute [local go_sem] aV aW aX bv bw bz bA
theorem Lr{F:iE}{p:Int}{c:Cx}{s s1:St}{sg:Nd}(h:nN F p c s=.ok sg s1):∃a r,sg=.mk 12 ⟨#[]⟩ [a,r] p:=by
 unfold nN at h;cases J:ci ⟨#[40]⟩ c s with
 |out=>rw[J]at h;cases h
 | ok u s2=>
  rw[J]at h;change ((a6 (fp F) ⟨#[41]⟩ F.g [] c s2).bind fun l s2=>(dp F c s2).bind fun r s3=>.ok (.mk 12 ⟨#[]⟩ [.mk 6 ⟨#[]⟩ l (aM c s),r] p) s3)=.ok sg s1 at h;cases I:a6 (fp F) ⟨#[41]⟩ F.g [] c s2 with
  |out=>rw[I]at h;cases h
  |ok l s3=>
   rw[I]at h;change ((dp F c s3).bind fun r s3=>.ok (.mk 12 ⟨#[]⟩ [.mk 6 ⟨#[]⟩ l (aM c s),r] p) s3)=.ok sg s1 at h;cases D:dp F c s3 with
   |out=>rw[D]at h;cases h
   |ok r s4=>rw[D]at h;change cC.ok (Nd.mk 12 ⟨#[]⟩ [.mk 6 ⟨#[]⟩ l (aM c s),r] p) s4=.ok sg s1 at h;injection h with h _;exact⟨_,_,h.symm⟩
theorem pB{w:World}{P:Nat}{t:TypeId}{a b c d:Value}(h:an w P t #[a,b,c,d]):w.cell? ⟨P,0,none⟩=some a/\w.cell? ⟨P,1,none⟩=some b/\w.cell? ⟨P,2,none⟩=some c/\w.cell? ⟨P,3,none⟩=some d:=
 ⟨(h.cell 0).trans rfl,(h.cell 1).trans rfl,(h.cell 2).trans rfl,(h.cell 3).trans rfl⟩
def IC(types nb:Bool)(c:Cx)(s:St):Bool:=types&&(!nb&&(decide (s.at_+1<c.toks.length) && !((ay c (s.at_+1)).text.toList==[41])))
theorem Az(E:cy)(F:iE)(hF:pw E F)(p:Int)(types:Bool)(w:World)(s:St)(h:aU E w s)(hc:dh F p types E.c s≠.out):
  Calls prog 222 #[E.R,p,.bool types] w (pO E w (dh F p types E.c s)):=by
 generalize hres:dh F p types E.c s=res at *;have gk:=hid hc;have gl:=h.lt;have hq:=h.most;have ja:=h.le;(have hh:(⟨#[41]⟩:BA).toList=[41]:=by decide +kernel);have ga:=hid (show(if IC types (iH E.c s) E.c s=true then(df F p E.c s).bind fun t s1=>if iv E.c s1 then .ok t s1 else .out
   else(nN F p E.c s).bind fun sg s1=>if types=true/\(sg.kids.headD bX).kids.length=0/\iv E.c s1=true then .ok sg s1
   else(bC F E.c s1).bind fun b s2=>.ok (.mk 25 ⟨#[]⟩ [sg,b] p) s2)=res by rw[<-hres,dh];(have e:(IC types (iH E.c s) E.c s=true)=(types=true/\iH E.c s=false/\s.at_+1<E.c.toks.length/\(ay E.c (s.at_+1)).text≠(⟨#[41]⟩:BA)):=by unfold IC;rw[<-hh,cu];simp);simp only[e])
 clear hres hc;have hg:=hid (fun W(hr:aU E W s)=>DX E s W hr);generalize hnb:iH E.c s=nb at *;clear hnb;have U:=(aw.refl h).alloc (.cells bP 24);have g6:=an.new w 24 bP;(have h8:w.heap.size+1<=(w.alloc (.cells bP 24)).heap.size:=by simp);(go_enter func222,ntmps222);(go_upto_region 1 with fail);change Code.wp _ _ _ _ (w.alloc (.cells bP 24));generalize w.alloc (.cells bP 24)=w1 at *;go_cut [42] (fun hm wx=>hm=.bool (IC types nb E.c s)/\Below w1 w1 wx)
 case first=>
  clear ga gk g6;have HN:=hid (fun W(hb:Below w1 w1 W)=>hg.out W (U.rd.below hb));have g4:IntKind.i64.wrap ((s.at_:Int)+1)=(s.at_:Int)+1:=gQ _ (by omega);have k1:∀n:Wd (Below w1 w1),n.wd.cell? ⟨E.R,1,none⟩=some (.int .i64 s.at_):=fun n=>(U.rd.below n.ok).cells.2.1;have k0:∀n:Wd (Below w1 w1),n.wd.cell? ⟨E.R,0,none⟩=some (.slice E.A E.c.toks.length E.cap):=fun n=>(U.rd.below n.ok).cells.1;cases types with
  |false=>have J:Hid (IC false nb E.c s=false):=hid rfl;refine cT w1 ?_;(repeat(go_big_quiet_step (fail)));refine jY ?_;intro n;go_wp2_with fail;go_meet;exact⟨jM Value.bool J.out.symm,n.ok⟩
  | true=>
   cases nb with
   |true=>have J:Hid (IC true true E.c s=false):=hid rfl;refine cT w1 ?_;(repeat(go_big_quiet_step ((go_at_call 237;rename_i n;refine(HN.out n.wd n.ok).mono ?_;rintro e w'⟨rfl,hb⟩;exact⟨rfl,⟨w',aD n.ok hb⟩,rfl⟩))));refine jY ?_;intro n;go_wp2_with fail;go_meet;exact⟨jM Value.bool J.out.symm,n.ok⟩
   |false=>
    by_cases I:s.at_+1<E.c.toks.length
    case neg=>have J:Hid (IC true false E.c s=false):=hid (by unfold IC;rw[gM I];rfl);(have g1:decide ((s.at_:Int)+1<(E.c.toks.length:Int))=false:=by rw[gJ];omega);refine cT w1 ?_;(repeat(go_big_quiet_step ((go_at_call 237;rename_i n;refine(HN.out n.wd n.ok).mono ?_;rintro e w'⟨rfl,hb⟩;exact⟨rfl,⟨w',aD n.ok hb⟩,rfl⟩))));refine jY ?_;intro n;go_wp2_with fail;go_meet;exact⟨jM Value.bool J.out.symm,n.ok⟩
    case pos=>clear k0;obtain⟨b,off,hS⟩:=IN U.rd I;(have g1:decide ((s.at_:Int)+1<(E.c.toks.length:Int))=true:=by rw[gK];omega);(have g2:(0:Int)<=(s.at_:Int)+1:=by omega);(have g3:(s.at_:Int)+1<(E.c.toks.length:Int):=by omega);(have g5:((s.at_:Int)+1).toNat=s.at_+1:=by omega);have J:=(show IC true false E.c s = !((ay E.c (s.at_+1)).text.toList==[41])by unfold IC;rw[jO I];rfl);generalize IC true false E.c s=vv at *;generalize ay E.c (s.at_+1)=t at *;obtain⟨tk,tt,tp⟩:=t;simp only at *;have k0:∀n:Wd (Below w1 w1),n.wd.cell? ⟨E.R,0,none⟩=some (.slice (some ⟨b,off,none⟩) E.c.toks.length E.cap):=fun n=>(hS _ (U.rd.below n.ok)).1;have k3:∀n:Wd (Below w1 w1),n.wd.cell? ⟨b,off+(s.at_+1)*3+1,none⟩=some (.string tt):=fun n=>(hS _ (U.rd.below n.ok)).2.2.2;clear hS;cases h1:(tt.toList==[41]);all_goals have h2:(tt.toList != [41]) = !(tt.toList==[41]):=rfl;rw[h1]at h2 J;have J:=hid J;refine cT w1 ?_;(repeat(go_big_quiet_step ((go_at_call 237;rename_i n;refine(HN.out n.wd n.ok).mono ?_;rintro e w'⟨rfl,hb⟩;exact⟨rfl,⟨w',aD n.ok hb⟩,rfl⟩))));refine jY ?_;intro n;go_wp2_with fail;go_meet;exact⟨jM Value.bool J.out.symm,n.ok⟩
 case rest=>
  obtain⟨rfl,gv⟩:=hcut;have gj:=U.step gv;have gz:=g6.bl gv;have h7:=gv.size;generalize wc=w2 at *;clear hg U g6 gv;cases gt:IC types nb E.c s with
  | true=>
   have HE:=hid (show((df F p E.c s).bind fun t s1=>if iv E.c s1 then .ok t s1 else .out)=res by rw[<-ga.out,gF gt]);clear ga gt;go_wp2_with fail;cases hP:df F p E.c s with
   |out=>exact absurd HE.out.symm (by rw[hP];exact gk.out)
   |ok n s1=>
    have N:=hid (show(if iv E.c s1 then .ok n s1 else .out)=res by rw[<-HE.out,hP];rfl);refine(rJ E F hF p _ s gj.rd (by rw[hP];exact nofun)).mono ?_;rw[hP];rintro e w3⟨⟨v,rfl,J⟩,M⟩;obtain⟨A3,c3,rfl,g7⟩:=J.toC;have gs:=gz.grown M.gr;have gp:=gj.trans M;have hp:=M.gr.size;have D:=(aj w3 (nv n A3 c3)).1;have gi:=an.new w3 24 (nv n A3 c3);have gb:=gp.step D;have gq:=gs.bl D;have gm:=J.keep (w':=w3.alloc (.cells (nv n A3 c3) 24)) fun b _ I=>D.block b I;clear hP HE J g7 gp gs gz M D gj;(go_upto_region 3 with fail);change Code.wp _ _ _ _ (w3.alloc (.cells (nv n A3 c3) 24));generalize hXX:w3.heap.size=X at *;generalize w3.alloc (.cells (nv n A3 c3) 24)=w4 at *;go_wp2_with fail;refine(ul E s1 _ gb.rd).mono ?_;rintro e w5⟨rfl,O⟩;have gd:=gq.bl O.bel;have gh:=gi.bl O.bel;have gn:=gb.trans O.moved;have gy:=gm.keep (w':=w5) fun b _ I=>O.bel.block b I;have ho:=O.bel.size;clear gq gi gb gm O;cases hE:iv E.c s1 with
    |true=>have HF:Hid (res=.ok n s1):=hid (by rw[<-N.out,hE];rfl);clear N hE;obtain⟨x0,x1,x2,x3,-,-,-,-⟩:=ab gh;obtain⟨d0,d1,d2,d3,e0,e1,e2,e3⟩:=ab gd;go_wp2_with fail;refine aC HF.out gy gn gd (gA _) gl ?_ rfl (by rfl) rfl;intro b hb;constructor<;>omega
    |false=>exact absurd (show res=.out by rw[<-N.out,hE];rfl) gk.out
  | false=>
   have HE:=hid (show((nN F p E.c s).bind fun sg s1=>if types=true/\(sg.kids.headD bX).kids.length=0/\iv E.c s1=true then .ok sg s1
    else(bC F E.c s1).bind fun b s2=>.ok (.mk 25 ⟨#[]⟩ [sg,b] p) s2)=res by rw[<-ga.out,d5 (by rw[gt];decide)])
   clear ga gt;go_wp2_with fail;cases hP:nN F p E.c s with
   |out=>exact absurd HE.out.symm (by rw[hP];exact gk.out)
   | ok sg s1=>
    obtain⟨pr,rs,rfl⟩:=Lr hP;have N:=hid (show(if types=true/\pr.kids.length=0/\iv E.c s1=true then .ok (.mk 12 ⟨#[]⟩ [pr,rs] p) s1
     else(bC F E.c s1).bind fun b s2=>.ok (.mk 25 ⟨#[]⟩ [.mk 12 ⟨#[]⟩ [pr,rs] p,b] p) s2)=res by rw[<-HE.out,hP];rfl)
    refine(pP E F hF p _ s gj.rd (by rw[hP];exact nofun)).mono ?_;rw[hP];rintro e w3⟨⟨v,rfl,J⟩,M⟩;obtain⟨A3,c3,rfl,g7⟩:=J.toC;change af _ _ (.agg #[.int .i64 12,.string ⟨#[]⟩,.slice A3 2 c3,.int .i64 p]) _ at J;obtain⟨kb,ko,kA,kc,rfl,jb,h3,-,-,k2,-,-⟩:=(af.kidsV J).kid 0 (show 0<2 by decide);change w3.cell? ⟨kb,ko+0*4+2,none⟩=some (.slice kA pr.kids.length kc)at k2;rw[jK,jD]at k2;have gs:=gz.grown M.gr;have gp:=gj.trans M;have hp:=M.gr.size;have D:Below w3 w3 (w3.alloc (.cells #[.int .i64 12,.string ⟨#[]⟩,.slice (some ⟨kb,ko,none⟩) 2 c3,.int .i64 p] 24)):=(gG _ _).alloc (gA _) _;have gi:=an.new w3 24 #[.int .i64 12,.string ⟨#[]⟩,.slice (some ⟨kb,ko,none⟩) 2 c3,.int .i64 p];have gb:=gp.step D;have gq:=gs.bl D;have gm:=J.keep (w':=w3.alloc (.cells #[.int .i64 12,.string ⟨#[]⟩,.slice (some ⟨kb,ko,none⟩) 2 c3,.int .i64 p] 24)) fun b _ I=>D.block b I;have ha:=cell_kept D k2;have h6:=D.size;clear hP HE J g7 gp gs gz M D gj k2;(go_upto_region 7 with fail);change Code.wp _ _ _ _ (w3.alloc (.cells #[.int .i64 12,.string ⟨#[]⟩,.slice (some ⟨kb,ko,none⟩) 2 c3,.int .i64 p] 24));generalize hXX:w3.heap.size=X at *;generalize w3.alloc (.cells #[.int .i64 12,.string ⟨#[]⟩,.slice (some ⟨kb,ko,none⟩) 2 c3,.int .i64 p] 24)=w4 at *;go_cut [68] (fun hl wx=>hl=.bool (decide (types=true/\pr.kids.length=0/\iv E.c s1=true))/\Below w4 w4 wx)
    case first=>
     clear N gk;obtain⟨x0,x1,x2,x3,-,-,-,-⟩:=ab gi;have h0:=hid (ul E s1 _ gb.rd);cases types with
     |false=>go_wp2_with fail;go_meet;exact⟨jM Value.bool (by simp),gG _ _⟩
     |true=>
      by_cases hz:pr.kids.length=0
      case pos=>rw[hz]at ha;go_wp2_with fail;refine h0.out.mono ?_;rintro e w5⟨rfl,O⟩;go_wp2_with fail;go_meet;exact⟨jM Value.bool (by rw[hz];simp),O.bel⟩
      case neg=>(have g9:((pr.kids.length:Int)==0)=false:=by rw[gC];omega);go_wp2_with fail;go_meet;exact⟨jM Value.bool (by rw[eq_comm,gJ];exact fun h=>hz h.2.1),gG _ _⟩
    case rest=>
     obtain⟨rfl,gg⟩:=hcut;have gd:=gq.bl gg;have gh:=gi.bl gg;have gn:=gb.step gg;have gy:=gm.keep (w':=wc) fun b _ I=>gg.block b I;have ho:=gg.size;clear gq gi gb gm gg ha;by_cases hD:types=true/\pr.kids.length=0/\iv E.c s1=true
     case pos=>have HF:Hid (res=.ok (.mk 12 ⟨#[]⟩ [pr,rs] p) s1):=hid (by rw[<-N.out,gF hD]);rw[jO hD];clear N hD;obtain⟨x0,x1,x2,x3,-,-,-,-⟩:=ab gh;obtain⟨d0,d1,d2,d3,e0,e1,e2,e3⟩:=ab gd;go_wp2_with fail;refine aC HF.out gy gn gd (gA _) gl ?_ rfl (by rfl) rfl;intro b hb;constructor<;>omega
     case neg=>
      have g8:=hid (show((bC F E.c s1).bind fun b s2=>.ok (.mk 25 ⟨#[]⟩ [.mk 12 ⟨#[]⟩ [pr,rs] p,b] p) s2)=res by rw[<-N.out,d5 hD]);rw[gM hD];clear N hD;go_wp2_with fail;have hy:bo (fun b=>w.heap.size+1<=b) wc (.mk 12 ⟨#[]⟩ [pr,rs] p) [.int .i64 12,.string ⟨#[]⟩,.slice (some ⟨kb,ko,none⟩) 2 c3,.int .i64 p]:=(af.cells gy).mono (fun b hb _=>by omega);(have gw:X≠w.heap.size:=by omega);(have ht:X≠E.R:=by omega);have s7:=pB gh;have hk:=pB gh.drew;cases hB:bC F E.c s1 with
      |out=>exact absurd g8.out.symm (by rw[hB];exact gk.out)
      | ok b s2=>
       have HC:=hid (fun W(hr:aU E W s1)=>iA E F hF W s1 hr (by rw[hB];exact nofun));have HF:Hid (res=.ok (.mk 25 ⟨#[]⟩ [.mk 12 ⟨#[]⟩ [pr,rs] p,b] p) s2):=hid (by rw[<-g8.out,hB];rfl);rw[hB]at HC;clear g8 hB;go_region_held3 (fun w'=>w'.cell? ⟨X,0,none⟩=some (.int .i64 12)/\w'.cell? ⟨X,1,none⟩=some (.string ⟨#[]⟩)/\w'.cell? ⟨X,2,none⟩=some (.slice (some ⟨kb,ko,none⟩) 2 c3)/\w'.cell? ⟨X,3,none⟩=some (.int .i64 p))
        (first|with_reducible exact s9 _ _ _ _|with_reducible exact hi|with_reducible exact hj _|with_reducible exact s8|with_reducible exact hk|with_reducible exact s7)
        (first
         |(go_at_call 88;refine(HC.out _ gn.drew.rd).mono ?_;rintro e w8⟨⟨v,rfl,hn⟩,ge⟩;obtain⟨An,cn,rfl,hw⟩:=hn.toC;have gx:=gh.drew.grown ge.gr (fun e=>ht (by injection e));have s8:=pB gx;have hj:=fun o:Obj=>pB (gx.alloc o))
         |(go_at_call 64;refine(aQ _ _ _ _ _ ⟨_,_,_,rfl⟩).mono ?_;rintro e w9⟨rfl,gu⟩;have he:=(gx.alloc _).below gu (by have:=gx.lt;simp;omega);have hi:=pB he;have s9:=fun a b c d:Value=>pB ((((he.far (p:=⟨w,0,none⟩) (by exact gw) a).far (p:=⟨w,1,none⟩) (by exact gw) b).far (p:=⟨w,2,none⟩) (by exact gw) c).far (p:=⟨w,3,none⟩) (by exact gw) d);have hf:=((gd.drew.grown ge.gr).alloc _).below gu (by have:=(gd.drew.grown ge.gr).lt;simp;omega);obtain⟨g0,g1,g2,g3,k0,k1,k2,k3⟩:=ab hf))
       (all_goals go_wp2_with fail);all_goals have h5:wc.heap.size<=w8.heap.size:=ge.gr.size;have hu:=(hy.keep (w:=wc) (w':=wc.drew) (fun _ _ _=>rfl)).keep (w':=w8) (ar.of_grown (X:=fun b=>w.heap.size+1<=b) ge.gr).block;have h4:wc.drew.heap.size=wc.heap.size:=rfl;have hV:=af.make 2 rfl (ag.cons hu (ag.one (hw.mono (Y:=fun b=>w.heap.size+1<=b) fun b hb _=>by omega))) 25 ⟨#[]⟩ p gu;refine aC HF.out hV (((gn.drew.trans ge).alloc _).step gu) hf (gA _) gl ?_ rfl (by rfl) rfl;rintro b(⟨hb,_⟩|rfl)<;>constructor<;>omega
end
end Go.Proofs.YtiebcdeafofgdaaGreatDoor
