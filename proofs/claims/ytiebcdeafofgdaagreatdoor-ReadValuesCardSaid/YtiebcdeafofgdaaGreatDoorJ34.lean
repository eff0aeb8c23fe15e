/-
  Parts of the proof: Rslices Rnamed Rfun. By an AI agent.
-/
import Derived.Test.YtiebcdeafofgdaaGreatDoorJ33
import Derived.BigQuiet
import Derived.Defers
import Derived.Recover
import Derived.IntWalk
set_option maxRecDepth 100000
set_option maxHeartbeats 8000000
namespace Go.Proofs.YtiebcdeafofgdaaGreatDoor
section
open Go.RowKit Go.Lib Go.Proofs
attribute [local go_sem ↓] Go.wp_at_zero Go.wp_at_succ
attribute [local go_sem] aG aH aI aW aX aY aZ
theorem ti (E:bN) (F:eB) (hF:mA E F) (types:Bool) (w:World) (s:St) (h:aD E w s) (gq:eN F types E.c s≠.out) :
  Calls Tryz.prog 223 #[.pointer (some ⟨E.R,0,none⟩),.bool types] w (iX E w (eN F types E.c s)):=by
 generalize D:eN F types E.c s=res at *;have M:=hid (show (F.typ E.c s).bind (fun t s1=>if types&&fx E.c s1 then .ok t s1 else cg F t E.c s1)=res from D);have gh:=hid gq;have gb:=h.lt;clear D gq;have O:=(ar.refl h).alloc (.cells aV 24);have gv:=aj.new w 24 aV;(have g3:w.heap.size+1≤(w.alloc (.cells aV 24)).heap.size:=by simp);(go_enter Tryz.func223,Tryz.ntmps223);(go_wp2_with fail);change Calls _ _ _ (w.alloc (.cells aV 24)) _;cases hP:F.typ E.c s with
 | out=>exact absurd M.out.symm (by rw [hP];exact gh.out)
 | fail q=>refine (hF.typ _ s O.rd (by rw [hP];exact nofun)).mono ?_;rw [hP];rintro e w3 ⟨rfl,gw⟩;unfold ag;exact ⟨rfl,af (by rw [←M.out,hP];rfl) O.gr gw⟩
 | ok n s1=>
  have U:=hid (show (if types&&fx E.c s1 then .ok n s1 else cg F n E.c s1)=res by rw [←M.out,hP];rfl);refine (hF.typ _ s O.rd (by rw [hP];exact nofun)).mono ?_;rw [hP];rintro e w3 ⟨⟨v,rfl,hv⟩,ga⟩;obtain ⟨A3,c3,rfl,gz⟩:=hv.toC;have gp:=gv.grown ga.gr (fun e=>by injection e with e;omega);have gu:=O.trans ga;have g2:=ga.gr.size;have I:Below w3.heap.size w3 (w3.alloc (.cells (nv n A3 c3) 24)):=(Below.refl _ _).alloc (Nat.le_refl _) _;have gi:=aj.new w3 24 (nv n A3 c3);have N:=gu.step I;have gg:=gp.below I gp.lt;have gl:=hv.keep (w':=w3.alloc (.cells (nv n A3 c3) 24)) fun b _ hlt=>I.block b hlt;have gd:=ga.gr.trans (ai (some E.R) I);have g1:=I.size;clear hP M hv gz gu gp gv ga I;(go_upto_region 2 with fail);change Code.wp _ _ _ _ (w3.alloc (.cells (nv n A3 c3) 24));generalize hXX:w3.heap.size=X at *;generalize w3.alloc (.cells (nv n A3 c3) 24)=w4 at *;clear hXX;obtain ⟨x0,x1,x2,x3,-,-,-,-⟩:=ac gi;obtain ⟨d0,d1,d2,d3,e0,e1,e2,e3⟩:=ac gg;cases types with
  | false=>
   have HF:=hid (show cg F n E.c s1=res from U.out);clear U d0 d1 d2 d3 e0 e1 e2 e3;(go_wp2_with fail);refine (rY E F hF (w.alloc (.cells aV 24)) w4 s1 n _ O.rd.lt gd N.rd gl (by rw [HF.out];exact gh.out)).mono ?_;rw [HF.out];unfold rX;cases D:res with
   | out=>exact absurd D gh.out
   | fail p=>rintro e w6 ⟨rfl,gk⟩;unfold ag;exact ⟨rfl,af (by first | rfl | exact D) N.gr gk⟩
   | ok n5 s5=>rintro e w6 ⟨⟨v6,rfl,y⟩,z⟩;obtain ⟨A6,c6,rfl,gy⟩:=y.toC;have ge:=gg.grown z.gr (fun e=>by injection e with e;omega);have gm:=N.trans z;obtain ⟨d0,d1,d2,d3,e0,e1,e2,e3⟩:=ac ge;(go_wp2_with fail);refine au (by first | rfl | exact D) y gm ge (Nat.le_refl _) gb ?_ rfl (by rfl) rfl;intro b hb;constructor <;> omega
  | true=>
   (go_wp2_with fail);refine (sK E s1 _ N.rd).mono ?_;rintro e w5 ⟨rfl,J⟩;have gn:=gg.below J.bel gg.lt;have gx:=gi.below J.bel gi.lt;have gj:=N.trans J.moved;have gt:=gl.keep (w':=w5) fun b _ hlt=>J.bel.block b hlt;have gs:=gd.trans (ai (some E.R) J.bel);have g0:=J.bel.size;clear x0 x1 x2 x3 d0 d1 d2 d3 e0 e1 e2 e3 gg gi N gl gd J;obtain ⟨x0,x1,x2,x3,-,-,-,-⟩:=ac gx;cases hE:fx E.c s1 with
   | true=>have HF:=hid (show res=.ok n s1 by rw [←U.out,hE];rfl);obtain ⟨d0,d1,d2,d3,e0,e1,e2,e3⟩:=ac gn;clear U hE;(go_wp2_with fail);refine au HF.out gt gj gn (Nat.le_refl _) gb ?_ rfl (by rfl) rfl;intro b hb;constructor <;> omega
   | false=>
    have HF:=hid (show cg F n E.c s1=res by rw [←U.out,hE];rfl);clear U hE;(go_wp2_with fail);refine (rY E F hF (w.alloc (.cells aV 24)) w5 s1 n _ O.rd.lt gs gj.rd gt (by rw [HF.out];exact gh.out)).mono ?_;rw [HF.out];unfold rX;cases D:res with
    | out=>exact absurd D gh.out
    | fail p=>rintro e w6 ⟨rfl,gk⟩;unfold ag;exact ⟨rfl,af (by first | rfl | exact D) gj.gr gk⟩
    | ok n5 s5=>rintro e w6 ⟨⟨v6,rfl,y⟩,z⟩;obtain ⟨A6,c6,rfl,gy⟩:=y.toC;have ge:=gn.grown z.gr (fun e=>by injection e with e;omega);have gm:=gj.trans z;obtain ⟨d0,d1,d2,d3,e0,e1,e2,e3⟩:=ac ge;(go_wp2_with fail);refine au (by first | rfl | exact D) y gm ge (Nat.le_refl _) gb ?_ rfl (by rfl) rfl;intro b hb;constructor <;> omega
end
section
open Go.RowKit Go.Lib Go.Proofs
attribute [local go_sem ↓] Go.wp_at_zero Go.wp_at_succ
attribute [local go_sem] aG aH aI
theorem iB {E:bN} {s:St} {w w':World} (h:aD E w s) (D:w.grownBy w' (some E.R)) (h':aD E w' s):Below w.heap.size w w':=
 ⟨D.os,D.tape,D.output,D.size,fun b hb=>by
  by_cases e:b=E.R
  ·subst e;exact Eq.trans (show w'.heap[E.R]? = _ from h'.blk) (show w.heap[E.R]? = _ from h.blk).symm
  ·exact D.block b hb (fun e'=>e (by injection e'))⟩
theorem pN (E:bN) (s:St) (n:Nat) (D:n≤E.c.toks.length) (K B:Nat) (w:World) (h:aD E w s) (k0:w.cell? ⟨K,0,none⟩=some (.int .i64 (n:Int))) (b0:w.cell? ⟨B,0,none⟩=some (.pointer (some ⟨E.R,0,none⟩))) :
  CallsD Tryz.prog 240 #[.pointer (some ⟨K,0,none⟩),.pointer (some ⟨B,0,none⟩)] .returning w fun e u' w'=>u'=.returning∧(e=.returned (.tuple #[])∧ar E { s with at_:=n } w w'):=by obtain ⟨c0,c1,-,-,-,cf⟩:=h.cells;have I:=h.lt;have f1:=cf 1;have J:=(ar.refl h).setAt n D;clear h;(go_enter_d Tryz.func240,Tryz.ntmps240);(go_wp2_with fail);exact ⟨rfl,_,results_none rfl _ _ _,rfl,J⟩
theorem Ca (E:bN) (s:St) (w:World) (h:aD E w s):Calls Tryz.prog 237 #[.pointer (some ⟨E.R,0,none⟩)] w fun e w'=>e=.returned (.bool (fq E.c s))∧Below w.heap.size w w':=by
 have hh:∀ (fn:Fn) (first cap:Array Value) (w:World),(Instr.makeFunc fn first cap).run Tryz.prog w=.ok (.func fn first cap) w:=fun _ _ _ _=>rfl;have g0:=h.most;have he:=h.lt;have H:=hid h;have gg:Below w.heap.size w (w.alloc (.cells #[.pointer (some ⟨E.R,0,none⟩)] 52)):=(Below.refl _ _).alloc (Nat.le_refl _) _;have gs:=aj.new w 52 #[.pointer (some ⟨E.R,0,none⟩)];have h0:=h.alloc (.cells #[.pointer (some ⟨E.R,0,none⟩)] 52);(have gt:w.heap.size+1=(w.alloc (.cells #[.pointer (some ⟨E.R,0,none⟩)] 52)).heap.size:=by simp);have b0:=aJ gs;obtain ⟨c0,c1,-,-,-,-⟩:=h0.cells;have g2:IntKind.i64.wrap ((s.at_:Int)+2)=(s.at_:Int)+2:=IntWalk.i64_in _ (by have:=h.le;omega);have g1:IntKind.i64.wrap ((s.at_:Int)+1)=(s.at_:Int)+1:=IntWalk.i64_in _ (by have:=h.le;omega);by_cases hA:s.at_+2<E.c.toks.length
 case neg=>(have hN:fq E.c s=false:=by unfold fq;rw [decide_eq_false hA];rfl);rw [hN];(have g3:decide ((s.at_:Int)+2≥(E.c.toks.length:Int))=true:=by rw [decide_eq_true_iff];omega);(have ha:(E.c.toks.length:Int)≤(s.at_:Int)+2:=by omega);clear hN H h h0;(go_enter_defers Tryz.func237,Tryz.ntmps237);(go_wp2_with fail);go_quiet (fail);(go_wp2_with fail);simp [bodyPostD,Leaves,results,Tryz.results237,go_sem];exact al gg nq
 obtain ⟨b,off,eA,hi,t0,t1,t2⟩:=h0.tok (s.at_+1) (by omega);rw [eA] at c0;(have g3:decide ((s.at_:Int)+2≥(E.c.toks.length:Int))=false:=by rw [decide_eq_false_iff_not];omega);(have ha:¬ ((E.c.toks.length:Int)≤(s.at_:Int)+2):=by omega);(have g4:(0:Int)≤(s.at_:Int)+1:=by omega);(have g5:(s.at_:Int)+1<(E.c.toks.length:Int):=by omega);(have g6:((s.at_:Int)+1).toNat=s.at_+1:=by omega);by_cases hK:(am E.c (s.at_+1)).kind=1
 case neg=>(have hN:fq E.c s=false:=by unfold fq;rw [decide_eq_true hA,beq_eq_false_iff_ne.2 hK];rfl);rw [hN];(have g7:((am E.c (s.at_+1)).kind != 1)=true:=by rw [bne_iff_ne];exact hK);(have g8:((am E.c (s.at_+1)).kind==1)=false:=by rw [beq_eq_false_iff_ne];exact hK);generalize am E.c (s.at_+1)=tk at *;clear hN H h h0;(go_enter_defers Tryz.func237,Tryz.ntmps237);(go_wp2_with fail);go_quiet (fail);(go_wp2_with fail);simp [bodyPostD,Leaves,results,Tryz.results237,go_sem];exact al gg nq
 (have g7:((am E.c (s.at_+1)).kind != 1)=false:=by rw [hK];rfl);(have g8:((am E.c (s.at_+1)).kind==1)=true:=by rw [hK];rfl);(have hN:fq E.c s=((am E.c (s.at_+2)).kind==1||(aE E.c { s with at_:=s.at_+2 } (⟨#[102,117,110,99]⟩:BA)||(aE E.c { s with at_:=s.at_+2 } (⟨#[40]⟩:BA)||dq E.c { s with at_:=s.at_+2 }))):=by unfold fq;rw [decide_eq_true hA,g8];rfl);rw [hN];clear hN;generalize am E.c (s.at_+1)=tk at *;generalize hq:({ s with at_:=s.at_+2 } : St)=q at *;have D:=hid hq;(have gy:q.at_=s.at_+2:=by rw [←hq]);clear hq;(go_enter_defers Tryz.func237,Tryz.ntmps237);(go_wp2_with fail);go_quiet (fail);have gq:=gs.drewN nq;have gj:=((ar.refl H.out).alloc (.cells #[.pointer (some ⟨E.R,0,none⟩)] 52)).drewN nq;have hg:w.heap.size+1=((w.alloc (.cells #[.pointer (some ⟨E.R,0,none⟩)] 52)).drewN nq).heap.size:=gt;(have J:s.at_≤E.c.toks.length:=by omega);clear h h0 b0 c0 c1 t0 t1 t2 gg gt gs;generalize (w.alloc (.cells #[.pointer (some ⟨E.R,0,none⟩)] 52)).drewN nq=w1 at *;have b1:=aJ gq;obtain ⟨-,c1,-,-,-,-⟩:=gj.rd.cells;(go_upto_region 4 with fail);have gp:=gq.alloc (.cells #[.int .i64 (s.at_:Int)] 3);have gw:=aj.new w1 3 #[.int .i64 (s.at_:Int)];have gi:=gj.alloc (.cells #[.int .i64 (s.at_:Int)] 3);(have hf:w1.heap.size+1=(w1.alloc (.cells #[.int .i64 (s.at_:Int)] 3)).heap.size:=by simp);clear b1 c1 gq gj;change Code.wp _ _ _ _ (w1.alloc (.cells #[.int .i64 (s.at_:Int)] 3));generalize hKK:w1.heap.size=K at *;generalize w1.alloc (.cells #[.int .i64 (s.at_:Int)] 3)=w2 at *;clear hKK;have b2:=aJ gp;obtain ⟨-,c1,-,-,-,cf⟩:=gi.rd.cells;have f1:=cf 1;have gn:=gp.far (p:=⟨E.R,1,none⟩) (by show w.heap.size≠E.R;omega) (.int .i64 ((s.at_:Int)+2));have gv:=gw.far (p:=⟨E.R,1,none⟩) (by show K≠E.R;omega) (.int .i64 ((s.at_:Int)+2));have gh:=gi.setAt (s.at_+2) (by omega);rw [show ((s.at_+2:Nat):Int)=(s.at_:Int)+2 from rfl,D.out] at gh;have b3:=aJ gn;(go_upto_region 6 with fail);generalize w2.setCell ⟨E.R,1,none⟩ (.int .i64 ((s.at_:Int)+2))=w3 at *;clear c1 cf f1 b2 gp gw gi;(go_wp2_with fail);refine (bw E q w3 gh.rd).mono ?_;unfold eO;rw [gy];rintro e w4 ⟨rfl,U⟩;have ge:=gn.below U gn.lt;have gm:=gv.below U gv.lt;have ga:=gh.step U;have b4:=aJ ge;clear b3;cases h1:((am E.c (s.at_+2)).kind==1) with
 | true=>clear U;(go_wp2_with fail);refine leaves_cons (f:=240) (args:=#[.pointer (some ⟨K,0,none⟩),.pointer (some ⟨w.heap.size,0,none⟩)]) (by simp) (by simp [go_sem]) ?_;refine (pN E q s.at_ J K w.heap.size _ ga.rd (aJ gm) (aJ ge)).mono ?_;rintro e u' w10 ⟨rfl,rfl,I⟩;simp [Leaves,settle,results,Tryz.results237,go_sem];exact ⟨.inl (beq_iff_eq.1 h1),iB H.out (ga.gr.trans I.gr) (by have:=I.rd;rw [←D.out] at this;exact this)⟩
 | false=>
  (go_wp2_with fail);refine (bo E q (⟨#[102,117,110,99]⟩:BA) w4 ga.rd).mono ?_;rintro e w5 ⟨rfl,O⟩;have gd:=ge.below O ge.lt;have gl:=gm.below O gm.lt;have z:=ga.step O;have b5:=aJ gd;clear b4;cases h2:aE E.c q (⟨#[102,117,110,99]⟩:BA) with
  | true=>clear O;(go_wp2_with fail);refine leaves_cons (f:=240) (args:=#[.pointer (some ⟨K,0,none⟩),.pointer (some ⟨w.heap.size,0,none⟩)]) (by simp) (by simp [go_sem]) ?_;refine (pN E q s.at_ J K w.heap.size _ z.rd (aJ gl) (aJ gd)).mono ?_;rintro e u' w10 ⟨rfl,rfl,I⟩;simp [Leaves,settle,results,Tryz.results237,go_sem];exact ⟨.inr (.inl h2),iB H.out (z.gr.trans I.gr) (by have:=I.rd;rw [←D.out] at this;exact this)⟩
  | false=>
   (go_wp2_with fail);refine (bo E q (⟨#[40]⟩:BA) w5 z.rd).mono ?_;rintro e w6 ⟨rfl,N⟩;have gb:=gd.below N gd.lt;have gk:=gl.below N gl.lt;have y:=z.step N;have b6:=aJ gb;clear b5;cases h3:aE E.c q (⟨#[40]⟩:BA) with
   | true=>clear N;(go_wp2_with fail);refine leaves_cons (f:=240) (args:=#[.pointer (some ⟨K,0,none⟩),.pointer (some ⟨w.heap.size,0,none⟩)]) (by simp) (by simp [go_sem]) ?_;refine (pN E q s.at_ J K w.heap.size _ y.rd (aJ gk) (aJ gb)).mono ?_;rintro e u' w10 ⟨rfl,rfl,I⟩;simp [Leaves,settle,results,Tryz.results237,go_sem];exact ⟨.inr (.inr (.inl h3)),iB H.out (y.gr.trans I.gr) (by have:=I.rd;rw [←D.out] at this;exact this)⟩
   | false=>(go_wp2_with fail);refine (ot E q w6 y.rd).mono ?_;rintro e w7 ⟨rfl,gz⟩;have M:=gz.bel;have gx:=gb.below M gb.lt;have g9:=gk.below M gk.lt;have gu:=y.step M;have b7:=aJ gx;clear b6;clear M;(go_wp2_with fail);refine leaves_cons (f:=240) (args:=#[.pointer (some ⟨K,0,none⟩),.pointer (some ⟨w.heap.size,0,none⟩)]) (by simp) (by simp [go_sem]) ?_;refine (pN E q s.at_ J K w.heap.size _ gu.rd (aJ g9) (aJ gx)).mono ?_;rintro e u' w10 ⟨rfl,rfl,I⟩;simp [Leaves,settle,results,Tryz.results237,go_sem];exact ⟨by rw [h1,h2,h3];rfl,iB H.out (gu.gr.trans I.gr) (by have:=I.rd;rw [←D.out] at this;exact this)⟩
end
section
open Go.RowKit Go.Lib Go.Proofs
attribute [local go_sem ↓] Go.wp_at_zero Go.wp_at_succ
attribute [local go_sem] aG aH aI aW aX aY aZ
theorem Fj {F:eB} {p:Int} {c:Cx} {s s1:St} {sg:Nd} (h:mw F p c s=.ok sg s1):∃ a r,sg=.mk 12 ⟨#[]⟩ [a,r] p:=by
 unfold mw at h;cases J:need (⟨#[40]⟩:BA) c s with
 | out=>rw [J] at h;cases h
 | fail q=>rw [J] at h;cases h
 | ok u s2=>
  rw [J] at h;change ((aO (dF F) (⟨#[41]⟩:BA) F.g [] c s2).bind fun l s2=>(cu F c s2).bind fun r s3=>.ok (.mk 12 ⟨#[]⟩ [.mk 6 ⟨#[]⟩ l (an c s),r] p) s3)=.ok sg s1 at h;cases I:aO (dF F) (⟨#[41]⟩:BA) F.g [] c s2 with
  | out=>rw [I] at h;cases h
  | fail q=>rw [I] at h;cases h
  | ok l s3=>
   rw [I] at h;change ((cu F c s3).bind fun r s3=>.ok (.mk 12 ⟨#[]⟩ [.mk 6 ⟨#[]⟩ l (an c s),r] p) s3)=.ok sg s1 at h;cases D:cu F c s3 with
   | out=>rw [D] at h;cases h
   | fail q=>rw [D] at h;cases h
   | ok r s4=>rw [D] at h;change cZ.ok (Nd.mk 12 ⟨#[]⟩ [.mk 6 ⟨#[]⟩ l (an c s),r] p) s4=.ok sg s1 at h;injection h with h _;exact ⟨_,_,h.symm⟩
theorem oD {w:World} {P:Nat} {t:TypeId} {a b c d:Value} (h:aj w P t #[a,b,c,d]):w.cell? ⟨P,0,none⟩=some a∧w.cell? ⟨P,1,none⟩=some b∧w.cell? ⟨P,2,none⟩=some c∧w.cell? ⟨P,3,none⟩=some d:=
 ⟨(h.cell 0).trans rfl,(h.cell 1).trans rfl,(h.cell 2).trans rfl,(h.cell 3).trans rfl⟩
def EE (types nb:Bool) (c:Cx) (s:St):Bool:=types&&(!nb&&(decide (s.at_+1<c.toks.length) && !((am c (s.at_+1)).text.toList==[41])))
theorem pO (E:bN) (F:eB) (hF:mA E F) (p:Int) (types:Bool) (w:World) (s:St) (h:aD E w s) (hg:cN F p types E.c s≠.out) :
  Calls Tryz.prog 222 #[.pointer (some ⟨E.R,0,none⟩),.int .i64 p,.bool types] w (iX E w (cN F p types E.c s)):=by
 generalize hres:cN F p types E.c s=res at *;have gs:=hid hg;have gn:=h.lt;have hw:=h.most;have jg:=h.le;(have hk:(⟨#[41]⟩:BA).toList=[41]:=by decide +kernel);have ge:=hid (show (if EE types (fq E.c s) E.c s=true then (cz F p E.c s).bind fun t s1=>if fx E.c s1 then .ok t s1 else .fail (an E.c s1)
   else (mw F p E.c s).bind fun sg s1=>if types=true∧(sg.kids.headD bJ).kids.length=0∧fx E.c s1=true then .ok sg s1
   else (bm F E.c s1).bind fun b s2=>.ok (.mk 25 ⟨#[]⟩ [sg,b] p) s2)=res by rw [←hres,cN];(have e:(EE types (fq E.c s) E.c s=true)=(types=true∧fq E.c s=false∧s.at_+1<E.c.toks.length∧(am E.c (s.at_+1)).text≠(⟨#[41]⟩:BA)):=by unfold EE;rw [←hk,cU];simp);simp only [e])
 clear hres hg;have hj:=hid (fun W (hr:aD E W s)=>Ca E s W hr);generalize hnb:fq E.c s=nb at *;clear hnb;have gd:=(ar.refl h).alloc (.cells aV 24);have g7:=aj.new w 24 aV;(have jf:w.heap.size+1≤(w.alloc (.cells aV 24)).heap.size:=by simp);(go_enter Tryz.func222,Tryz.ntmps222);(go_upto_region 1 with fail);change Code.wp _ _ _ _ (w.alloc (.cells aV 24));generalize w.alloc (.cells aV 24)=w1 at *;go_cut [42] (fun hp wx=>hp=.bool (EE types nb E.c s)∧Below w1.heap.size w1 wx)
 case first=>
  clear ge gs g7;have HN:=hid (fun W (hb:Below w1.heap.size w1 W)=>hj.out W (gd.rd.below hb));have g4:IntKind.i64.wrap ((s.at_:Int)+1)=(s.at_:Int)+1:=IntWalk.i64_in _ (by omega);have k1:∀ n:Wd (Below w1.heap.size w1),n.wd.cell? ⟨E.R,1,none⟩=some (.int .i64 s.at_):=fun n=>(gd.rd.below n.ok).cells.2.1;have k0:∀ n:Wd (Below w1.heap.size w1),n.wd.cell? ⟨E.R,0,none⟩=some (.slice E.A E.c.toks.length E.cap):=fun n=>(gd.rd.below n.ok).cells.1;cases types with
  | false=>
   have N:=hid (show EE false nb E.c s=false from rfl);haveI:Nonempty (Wd (Below w1.heap.size w1)):=⟨⟨w1,Below.refl _ _⟩⟩
   refine aw (Below w1.heap.size w1) (by kernel_rfl) (by kernel_rfl) (Below.refl _ _).drew ?_;(repeat (go_big_quiet_step (fail)));refine wpQuiet_nil ?_;intro n;(go_wp2_with fail);go_meet;exact ⟨congrArg Value.bool N.out.symm,n.ok⟩
  | true=>
   cases nb with
   | true=>
    have N:=hid (show EE true true E.c s=false from rfl);haveI:Nonempty (Wd (Below w1.heap.size w1)):=⟨⟨w1,Below.refl _ _⟩⟩
    refine aw (Below w1.heap.size w1) (by kernel_rfl) (by kernel_rfl) (Below.refl _ _).drew ?_;(repeat (go_big_quiet_step ((go_at_call 237;rename_i n;refine (HN.out n.wd n.ok).mono ?_;rintro e w' ⟨rfl,hb⟩;exact ⟨rfl,⟨w',n.ok.trans (hb.mono n.ok.size)⟩,rfl⟩))));refine wpQuiet_nil ?_;intro n;(go_wp2_with fail);go_meet;exact ⟨congrArg Value.bool N.out.symm,n.ok⟩
   | false=>
    by_cases I:s.at_+1<E.c.toks.length
    case neg=>
     have N:=hid (show EE true false E.c s=false by unfold EE;rw [decide_eq_false I];rfl);(have g1:decide ((s.at_:Int)+1<(E.c.toks.length:Int))=false:=by rw [decide_eq_false_iff_not];omega);haveI:Nonempty (Wd (Below w1.heap.size w1)):=⟨⟨w1,Below.refl _ _⟩⟩
     refine aw (Below w1.heap.size w1) (by kernel_rfl) (by kernel_rfl) (Below.refl _ _).drew ?_;(repeat (go_big_quiet_step ((go_at_call 237;rename_i n;refine (HN.out n.wd n.ok).mono ?_;rintro e w' ⟨rfl,hb⟩;exact ⟨rfl,⟨w',n.ok.trans (hb.mono n.ok.size)⟩,rfl⟩))));refine wpQuiet_nil ?_;intro n;(go_wp2_with fail);go_meet;exact ⟨congrArg Value.bool N.out.symm,n.ok⟩
    case pos=>
     clear k0;obtain ⟨b,off,hS⟩:=EJ gd.rd I;(have g1:decide ((s.at_:Int)+1<(E.c.toks.length:Int))=true:=by rw [decide_eq_true_iff];omega);(have g2:(0:Int)≤(s.at_:Int)+1:=by omega);(have g3:(s.at_:Int)+1<(E.c.toks.length:Int):=by omega);(have g5:((s.at_:Int)+1).toNat=s.at_+1:=by omega);have N:=(show EE true false E.c s = !((am E.c (s.at_+1)).text.toList==[41]) by unfold EE;rw [decide_eq_true I];rfl);generalize EE true false E.c s=vv at *;generalize am E.c (s.at_+1)=t at *;obtain ⟨tk,tt,tp⟩:=t;simp only at *;have k0:∀ n:Wd (Below w1.heap.size w1),n.wd.cell? ⟨E.R,0,none⟩=some (.slice (some ⟨b,off,none⟩) E.c.toks.length E.cap):=fun n=>(hS _ (gd.rd.below n.ok)).1;have k3:∀ n:Wd (Below w1.heap.size w1),n.wd.cell? ⟨b,off+(s.at_+1) * 3+1,none⟩=some (.string tt):=fun n=>(hS _ (gd.rd.below n.ok)).2.2.2;clear hS;cases h1:(tt.toList==[41]);all_goals
      have h2:(tt.toList != [41]) = !(tt.toList==[41]):=rfl;rw [h1] at h2 N;have N:=hid N;haveI:Nonempty (Wd (Below w1.heap.size w1)):=⟨⟨w1,Below.refl _ _⟩⟩
      refine aw (Below w1.heap.size w1) (by kernel_rfl) (by kernel_rfl) (Below.refl _ _).drew ?_;(repeat (go_big_quiet_step ((go_at_call 237;rename_i n;refine (HN.out n.wd n.ok).mono ?_;rintro e w' ⟨rfl,hb⟩;exact ⟨rfl,⟨w',n.ok.trans (hb.mono n.ok.size)⟩,rfl⟩))));refine wpQuiet_nil ?_;intro n;(go_wp2_with fail);go_meet;exact ⟨congrArg Value.bool N.out.symm,n.ok⟩
 case rest=>
  obtain ⟨rfl,gw⟩:=hcut;have J:=gd.step gw;have g6:=g7.below gw g7.lt;have je:=gw.size;generalize wc=w2 at *;clear hj gd g7 gw;cases gu:EE types nb E.c s with
  | true=>
   have HE:=hid (show ((cz F p E.c s).bind fun t s1=>if fx E.c s1 then .ok t s1 else .fail (an E.c s1))=res by rw [←ge.out,if_pos gu]);clear ge gu;(go_wp2_with fail);cases z:cz F p E.c s with
   | out=>exact absurd HE.out.symm (by rw [z];exact gs.out)
   | fail q=>refine (mO E F hF p _ s J.rd (by rw [z];exact nofun)).mono ?_;rw [z];rintro e M ⟨rfl,g8⟩;unfold ag;exact ⟨rfl,af (by rw [←HE.out,z];rfl) J.gr g8⟩
   | ok n s1=>
    have y:=hid (show (if fx E.c s1 then .ok n s1 else .fail (an E.c s1))=res by rw [←HE.out,z];rfl);refine (mO E F hF p _ s J.rd (by rw [z];exact nofun)).mono ?_;rw [z];rintro e M ⟨⟨v,rfl,N⟩,O⟩;obtain ⟨A3,c3,rfl,he⟩:=N.toC;have gj:=g6.grown O.gr (fun e=>by injection e with e;omega);have gq:=J.trans O;have hu:=O.gr.size;have D:Below M.heap.size M (M.alloc (.cells (nv n A3 c3) 24)):=(Below.refl _ _).alloc (Nat.le_refl _) _;have gb:=aj.new M 24 (nv n A3 c3);have gg:=gq.step D;have gi:=gj.below D gj.lt;have gp:=N.keep (w':=M.alloc (.cells (nv n A3 c3) 24)) fun b _ I=>D.block b I;clear z HE N he gq gj g6 O D J;(go_upto_region 3 with fail);change Code.wp _ _ _ _ (M.alloc (.cells (nv n A3 c3) 24));generalize hXX:M.heap.size=X at *;generalize M.alloc (.cells (nv n A3 c3) 24)=w4 at *;(go_wp2_with fail);refine (sK E s1 _ gg.rd).mono ?_;rintro e w5 ⟨rfl,ga⟩;have gh:=gi.below ga.bel gi.lt;have gm:=gb.below ga.bel gb.lt;have U:=gg.trans ga.moved;have gz:=gp.keep (w':=w5) fun b _ I=>ga.bel.block b I;have ht:=ga.bel.size;clear gi gb gg gp ga;cases hE:fx E.c s1 with
    | true=>have HF:=hid (show res=.ok n s1 by rw [←y.out,hE];rfl);clear y hE;obtain ⟨x0,x1,x2,x3,-,-,-,-⟩:=ac gm;obtain ⟨d0,d1,d2,d3,e0,e1,e2,e3⟩:=ac gh;(go_wp2_with fail);refine au HF.out gz U gh (Nat.le_refl _) gn ?_ rfl (by rfl) rfl;intro b hb;constructor <;> omega
    | false=>(go_wp2_with fail);refine (dB E s1 _ U.rd).mono ?_;rintro e w6 ⟨rfl,h0⟩;unfold ag;exact ⟨rfl,af (by rw [←y.out,hE];rfl) U.gr (ai _ h0)⟩
  | false=>
   have HE:=hid (show ((mw F p E.c s).bind fun sg s1=>if types=true∧(sg.kids.headD bJ).kids.length=0∧fx E.c s1=true then .ok sg s1
    else (bm F E.c s1).bind fun b s2=>.ok (.mk 25 ⟨#[]⟩ [sg,b] p) s2)=res by rw [←ge.out,if_neg (by rw [gu];decide)])
   clear ge gu;(go_wp2_with fail);cases z:mw F p E.c s with
   | out=>exact absurd HE.out.symm (by rw [z];exact gs.out)
   | fail q=>refine (iw E F hF p _ s J.rd (by rw [z];exact nofun)).mono ?_;rw [z];rintro e M ⟨rfl,g8⟩;unfold ag;exact ⟨rfl,af (by rw [←HE.out,z];rfl) J.gr g8⟩
   | ok sg s1=>
    obtain ⟨pr,rs,rfl⟩:=Fj z;have y:=hid (show (if types=true∧pr.kids.length=0∧fx E.c s1=true then .ok (.mk 12 ⟨#[]⟩ [pr,rs] p) s1
     else (bm F E.c s1).bind fun b s2=>.ok (.mk 25 ⟨#[]⟩ [.mk 12 ⟨#[]⟩ [pr,rs] p,b] p) s2)=res by rw [←HE.out,z];rfl)
    refine (iw E F hF p _ s J.rd (by rw [z];exact nofun)).mono ?_;rw [z];rintro e M ⟨⟨v,rfl,N⟩,O⟩;obtain ⟨A3,c3,rfl,he⟩:=N.toC;change av _ _ (.agg #[.int .i64 12,.string ⟨#[]⟩,.slice A3 2 c3,.int .i64 p]) _ at N;obtain ⟨kb,ko,kA,kc,rfl,jh,ja,-,-,k2,-,-⟩:=(av.kidsV N).kid 0 (show 0<2 by decide);change M.cell? ⟨kb,ko+0 * 4+2,none⟩=some (.slice kA pr.kids.length kc) at k2;rw [Nat.zero_mul,Nat.add_zero] at k2;have gj:=g6.grown O.gr (fun e=>by injection e with e;omega);have gq:=J.trans O;have hu:=O.gr.size;have D:Below M.heap.size M (M.alloc (.cells #[.int .i64 12,.string ⟨#[]⟩,.slice (some ⟨kb,ko,none⟩) 2 c3,.int .i64 p] 24)):=(Below.refl _ _).alloc (Nat.le_refl _) _;have gb:=aj.new M 24 #[.int .i64 12,.string ⟨#[]⟩,.slice (some ⟨kb,ko,none⟩) 2 c3,.int .i64 p];have gg:=gq.step D;have gi:=gj.below D gj.lt;have gp:=N.keep (w':=M.alloc (.cells #[.int .i64 12,.string ⟨#[]⟩,.slice (some ⟨kb,ko,none⟩) 2 c3,.int .i64 p] 24)) fun b _ I=>D.block b I;have hf:=cell_kept D k2;have jd:=D.size;clear z HE N he gq gj g6 O D J k2;(go_upto_region 7 with fail);change Code.wp _ _ _ _ (M.alloc (.cells #[.int .i64 12,.string ⟨#[]⟩,.slice (some ⟨kb,ko,none⟩) 2 c3,.int .i64 p] 24));generalize hXX:M.heap.size=X at *;generalize M.alloc (.cells #[.int .i64 12,.string ⟨#[]⟩,.slice (some ⟨kb,ko,none⟩) 2 c3,.int .i64 p] 24)=w4 at *;go_cut [68] (fun ho wx=>ho=.bool (decide (types=true∧pr.kids.length=0∧fx E.c s1=true))∧Below w4.heap.size w4 wx)
    case first=>
     clear y gs;obtain ⟨x0,x1,x2,x3,-,-,-,-⟩:=ac gb;have h8:=hid (sK E s1 _ gg.rd);cases types with
     | false=>(go_wp2_with fail);go_meet;exact ⟨congrArg Value.bool (by simp),Below.refl _ _⟩
     | true=>
      by_cases hz:pr.kids.length=0
      case pos=>rw [hz] at hf;(go_wp2_with fail);refine h8.out.mono ?_;rintro e w5 ⟨rfl,ga⟩;(go_wp2_with fail);go_meet;exact ⟨congrArg Value.bool (by rw [hz];simp),ga.bel⟩
      case neg=>(have g9:((pr.kids.length:Int)==0)=false:=by rw [beq_eq_false_iff_ne];omega);(go_wp2_with fail);go_meet;exact ⟨congrArg Value.bool (by rw [eq_comm,decide_eq_false_iff_not];exact fun h=>hz h.2.1),Below.refl _ _⟩
    case rest=>
     obtain ⟨rfl,gl⟩:=hcut;have gh:=gi.below gl gi.lt;have gm:=gb.below gl gb.lt;have U:=gg.step gl;have gz:=gp.keep (w':=wc) fun b _ I=>gl.block b I;have ht:=gl.size;clear gi gb gg gp gl hf;by_cases hD:types=true∧pr.kids.length=0∧fx E.c s1=true
     case pos=>have HF:=hid (show res=.ok (.mk 12 ⟨#[]⟩ [pr,rs] p) s1 by rw [←y.out,if_pos hD]);rw [decide_eq_true hD];clear y hD;obtain ⟨x0,x1,x2,x3,-,-,-,-⟩:=ac gm;obtain ⟨d0,d1,d2,d3,e0,e1,e2,e3⟩:=ac gh;(go_wp2_with fail);refine au HF.out gz U gh (Nat.le_refl _) gn ?_ rfl (by rfl) rfl;intro b hb;constructor <;> omega
     case neg=>
      have gt:=hid (show ((bm F E.c s1).bind fun b s2=>.ok (.mk 25 ⟨#[]⟩ [.mk 12 ⟨#[]⟩ [pr,rs] p,b] p) s2)=res by rw [←y.out,if_neg hD]);rw [decide_eq_false hD];clear y hD;(go_wp2_with fail);have h6:bD (fun b=>w.heap.size+1≤b) wc (.mk 12 ⟨#[]⟩ [pr,rs] p) [.int .i64 12,.string ⟨#[]⟩,.slice (some ⟨kb,ko,none⟩) 2 c3,.int .i64 p]:=(av.cells gz).mono (fun b hb _=>by omega);(have gx:X≠w.heap.size:=by omega);(have h3:X≠E.R:=by omega);have s7:=oD gm;have hn:=oD gm.drew;cases hB:bm F E.c s1 with
      | out=>exact absurd gt.out.symm (by rw [hB];exact gs.out)
      | fail q=>have HC:=hid (fun W (hr:aD E W s1)=>cW E F hF W s1 hr (by rw [hB];exact nofun));have HF:=hid (show res=.fail q by rw [←gt.out,hB];rfl);rw [hB] at HC;clear gt hB;let SS:World→Prop:=fun w'=>w'.cell? ⟨X,0,none⟩=some (.int .i64 12)∧w'.cell? ⟨X,1,none⟩=some (.string ⟨#[]⟩)∧w'.cell? ⟨X,2,none⟩=some (.slice (some ⟨kb,ko,none⟩) 2 c3)∧w'.cell? ⟨X,3,none⟩=some (.int .i64 p);have h7:SS wc.drew:=s7;(refine wp_region_held_drew (S:=SS) (by kernel_rfl) h7 ?_;intro ha;refine b8 0 rfl (by kernel_rfl) (fun _ _ _ h=>h) (by rfl) (by intro w hSw;(try dsimp only [SS] at hSw);go_simp;try (with_reducible rfl)) ha ?_;refine b8 1 rfl (by kernel_rfl) (fun _ _ _ h=>h) (by rfl) (by intro w hSw;(try dsimp only [SS] at hSw);go_simp;try (with_reducible rfl)) ha ?_;refine b8 2 rfl (by kernel_rfl) (fun _ _ _ h=>h) (by rfl) (by intro w hSw;(try dsimp only [SS] at hSw);go_simp;try (with_reducible rfl)) ha ?_;refine oP 3 (by kernel_rfl) rfl (fun K hK=>?_);go_simp);refine (HC.out _ U.drew.rd).mono ?_;rintro e w8 ⟨rfl,hy⟩;unfold ag;exact ⟨rfl,af HF.out U.drew.gr hy⟩
      | ok b s2=>
       have HC:=hid (fun W (hr:aD E W s1)=>cW E F hF W s1 hr (by rw [hB];exact nofun));have HF:=hid (show res=.ok (.mk 25 ⟨#[]⟩ [.mk 12 ⟨#[]⟩ [pr,rs] p,b] p) s2 by rw [←gt.out,hB];rfl);rw [hB] at HC;clear gt hB;go_region_held3 (fun w'=>w'.cell? ⟨X,0,none⟩=some (.int .i64 12)∧w'.cell? ⟨X,1,none⟩=some (.string ⟨#[]⟩)∧w'.cell? ⟨X,2,none⟩=some (.slice (some ⟨kb,ko,none⟩) 2 c3)∧w'.cell? ⟨X,3,none⟩=some (.int .i64 p))
        (first | with_reducible exact s9 _ _ _ _ | with_reducible exact hl | with_reducible exact hm _ | with_reducible exact s8 | with_reducible exact hn | with_reducible exact s7)
        (first
         | (go_at_call 88;refine (HC.out _ U.drew.rd).mono ?_;rintro e w8 ⟨⟨v,rfl,hq⟩,gk⟩;obtain ⟨An,cn,rfl,h5⟩:=hq.toC;have gy:=gm.drew.grown gk.gr (fun e=>h3 (by injection e));have s8:=oD gy;have hm:=fun o:Obj=>oD (gy.alloc o))
         | (go_at_call 64;refine (aC _ _ _ _ _ ⟨_,_,_,rfl⟩).mono ?_;rintro e w9 ⟨rfl,gv⟩;have hh:=(gy.alloc _).below gv (by have:=gy.lt;simp;omega);have hl:=oD hh;have s9:=fun a b c d:Value=>oD ((((hh.far (p:=⟨w.heap.size,0,none⟩) (by exact gx) a).far (p:=⟨w.heap.size,1,none⟩) (by exact gx) b).far (p:=⟨w.heap.size,2,none⟩) (by exact gx) c).far (p:=⟨w.heap.size,3,none⟩) (by exact gx) d);have hi:=((gh.drew.grown gk.gr (fun e=>by injection e with e;omega)).alloc _).below gv (by have:=(gh.drew.grown gk.gr (fun e=>by injection e with e;omega)).lt;simp;omega);obtain ⟨g0,g1,g2,g3,k0,k1,k2,k3⟩:=ac hi))
       (all_goals go_wp2_with fail);all_goals have jc:wc.heap.size≤w8.heap.size:=gk.gr.size;have h4:=(h6.keep (w:=wc) (w':=wc.drew) (fun _ _ _=>rfl)).keep (w':=w8) (ae.of_grown (X:=fun b=>w.heap.size+1≤b) gk.gr (fun g e hX=>by injection e with e;have hX:w.heap.size+1≤g:=hX;omega)).block;have jb:wc.drew.heap.size=wc.heap.size:=rfl;have hV:=av.make 2 rfl (ak.cons h4 (ak.one (h5.mono (Y:=fun b=>w.heap.size+1≤b) fun b hb _=>by omega))) 25 ⟨#[]⟩ p gv;refine au HF.out hV (((U.drew.trans gk).alloc _).step gv) hi (Nat.le_refl _) gn ?_ rfl (by rfl) rfl;rintro b (⟨hb,_⟩ | rfl) <;> constructor <;> omega
end
end Go.Proofs.YtiebcdeafofgdaaGreatDoor
