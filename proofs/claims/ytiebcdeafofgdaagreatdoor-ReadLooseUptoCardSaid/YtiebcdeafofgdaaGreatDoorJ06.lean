/-
  Parts of the proof: Rsimple Rrest Rhead Rpost Rkit2 Rput. By an AI agent.
-/
import Derived.Test.YtiebcdeafofgdaaGreatDoorJ05
open Go.Proofs.Tryz
set_option maxRecDepth 100000
set_option maxHeartbeats 8000000
namespace Go.Proofs.YtiebcdeafofgdaaGreatDoor
section
open Go.RowKit Go.Lib Go.Proofs
attribute [local go_sem ↓] Go.wp_at_zero Go.wp_at_succ
attribute [local go_sem] aV aW aX bv bw bz bA
def uB(E:cy)(w0 w:World)(r:cC Nd)(e:Ending)(w':World):Prop:=
 match r with
 | .ok n s=>(∃v,e=.returned v/\af (fun b=>w0.heap.size<=b) w' v n)/\aw E s w w'
 | .out=>False
def uC(E:cy)(F:iE):Prop:=
 ∀ (w0 w:World)(s:St)(p:Int)(x:Nd)(v:Value),E.R<w0.heap.size->w0.grownBy w (some E.R)->aU E w s->af (fun b=>w0.heap.size<=b) w v x->fQ F p x E.c s≠.out ->
   Calls prog 221 #[E.R,p,v] w (uB E w0 w (fQ F p x E.c s))
theorem uD(E:cy)(F:iE)(hF:pw E F)(hR:uC E F):eC E (ii F) 183:=by
 intro w s h hno;generalize D:ii F E.c s=res at *;have M:=hid D;have O:=hid hno;have gb:=h.lt;clear D hno;(go_enter func183,ntmps183);go_wp2_with fail;refine(b8 E s _ (h.alloc _)).mono ?_;unfold iI;rintro e w1⟨rfl,J⟩;have N:=((cN.refl h).alloc _).step J;have gk:=(an.new w 24 bP).below J (by simp);have gg:=J.size;clear J;have HE:=hid (show(F.expr E.c s).bind (fun x s1=>fQ F (aM E.c s) x E.c s1)=res from M.out);clear M;go_wp2_with fail;cases hP:F.expr E.c s with
 |out=>exact absurd HE.out.symm (by rw[hP];exact O.out)
 |ok n s1=>
  have ge:Hid (fQ F (aM E.c s) n E.c s1=res):=hid (by rw[<-HE.out,hP];rfl);refine(hF.expr w1 s N.rd (by rw[hP];exact nofun)).mono ?_;rw[hP];rintro e w3⟨⟨v,rfl,hv⟩,I⟩;have gj:=gk.grown I.gr;have gi:=N.moved.trans I;clear hP HE;go_wp2_with fail;refine(hR w1 w3 s1 _ n v N.rd.lt I.gr I.rd hv (by rw[show fQ F (ay E.c s.at_).pos n E.c s1=res from ge.out];exact O.out)).mono ?_;rw[show fQ F (ay E.c s.at_).pos n E.c s1=res from ge.out];unfold uB;cases D:res with
  |out=>exact absurd D O.out
  |ok n5 s5=>rintro e w5⟨⟨v5,rfl,U⟩,ga⟩;obtain⟨A5,c5,rfl,gl⟩:=U.toC;have gd:=gj.grown ga.gr;have gh:=gi.trans ga;obtain⟨d0,d1,d2,d3,e0,e1,e2,e3⟩:=ab gd;go_wp2_with fail;refine aC (by first|rfl|exact D) U gh gd (gA _) gb ?_ rfl (by rfl) rfl;intro b hb;simp at gg;constructor<;>omega
theorem ma{E:cy}{w0 w wk:World}{res:cC Nd}{n:Nd}{s:St}{X:Nat->Prop}{a0 a1 a2 a3 z0 z1 z2 z3:Value}{g q:Nat}{fn:Func}{a:Act}(N:res=.ok n s)
  (J:af X wk (.agg #[a0,a1,a2,a3]) n)(O:aw E s w wk)(hb:an wk g 24 #[z0,z1,z2,z3])(U:w.heap.size<=g)(h:E.R<g)(I:∀b,X b->w0.heap.size<=b/\b≠g)
  (D:fn.results = #[.cell q 24])(M:a.tmps.getD q undef=.pointer (some ⟨g,0,none⟩))(hd:a.defers=[]):
  bodyPost prog fn (uB E w0 w res) .ret a (dO wk g a0 a1 a2 a3):=by refine jV (eX D _ M (dJ hb a0 a1 a2 a3)) hd ?_;rw[N];exact⟨⟨_,rfl,(J.kept (dF (fun b hb=>(I b hb).2) _ _ _ _)).mono fun b hb _=>(I b hb).1⟩,fv O U h _ _ _ _⟩
theorem Lh(E:cy)(F:iE)(hF:pw E F):uC E F:=by
 intro w0 w s p x v hR0 hgr0 h hv hno;obtain⟨A,cp,rfl,hC⟩:=hv.toC;generalize hres:fQ F p x E.c s=res at *;have gj:=hid hres;have hf:=hid hno;have hu:=h.lt;have h0:=hgr0.size;clear hres hno;(go_enter func221,ntmps221);have g6:=(an.new w 24 (nv x A cp)).alloc (.cells bP 24);have g9:=an.new (w.alloc (.cells (nv x A cp) 24)) 24 bP;rw[show(w.alloc (.cells (nv x A cp) 24)).heap.size=w.heap.size+1 by simp]at g9;have gs:=((aw.refl h).alloc (.cells (nv x A cp) 24)).alloc (.cells bP 24);obtain⟨x0,x1,x2,x3,_,_,_,_⟩:=ab g6;let bb:Bool:=decide (x.kind=18)&&(decide (x.text≠(⟨#[95]⟩:BA))&&aS E.c s ⟨#[58,61]⟩);have gh:Go.RowKit.Hid (bb=(decide (x.kind=18)&&(decide (x.text≠(⟨#[95]⟩:BA))&&aS E.c s ⟨#[58,61]⟩))):=hid rfl;clear_value bb;(go_upto_region 1 with fail);go_cut [7] (fun s7 wx=>s7=.bool bb/\aw E (if bb=true then adv s else s) ((w.alloc (.cells (nv x A cp) 24)).alloc (.cells bP 24)) wx)
 case first=>
  have hT:=hid (show decide (x.text≠(⟨#[95]⟩:BA)) = !(x.text.toList==[95])by rw[show([95]:List UInt8)=((⟨#[95]⟩:BA):ByteArray).toList from by kernel_rfl,cu];simp);go_wp2_with fail
  ·(have ht:x.text.toList=[95]:=by assumption);(have hk:x.kind=18:=by assumption);have e:=hT.out;rw[ht]at e;(have hb:bb=false:=by rw[gh.out,e];simp);subst hb;rw[<-hk];clear hk;go_meet;exact⟨rfl,by rw[d5 (by decide)];exact aw.refl gs.rd⟩
  ·(have ht:¬ x.text.toList=[95]:=by assumption);(have hk:x.kind=18:=by assumption);have e:Hid (decide (x.text≠(⟨#[95]⟩:BA))=true):=hid (by rw[hT.out];simpa using ht);have hb:=hid (show bb=aS E.c s ⟨#[58,61]⟩by rw[gh.out,e.out,hk];simp);rw[<-hk];have HK:=hid hk;clear hk;cases hA:aS E.c s ⟨#[58,61]⟩with
   |true=>rw[hA]at hb;obtain rfl:=hb.out;refine(bB E s _ _ gs.rd hA).mono ?_;rintro e1 w1⟨rfl,gb⟩;clear hA;go_wp2_with fail;rw[<-HK.out];go_meet;exact⟨by first|rfl|(congr 1;simpa using ht),by first|exact gb|(rw[gF (by first|trivial|rfl)];exact gb)⟩
   |false=>rw[hA]at hb;obtain rfl:=hb.out;refine(cc E s _ _ gs.rd hA).mono ?_;rintro e1 w1⟨rfl,ho⟩;clear hA;go_wp2_with fail;rw[<-HK.out];go_meet;exact⟨rfl,by rw[d5 (by decide)];exact ho.moved⟩
  ·(have hk:¬ x.kind=18:=by assumption);(have hb:bb=false:=by rw[gh.out];simp[hk]);subst hb;go_meet;exact⟨rfl,by rw[d5 (by decide)];exact aw.refl gs.rd⟩
 case rest=>
  obtain⟨rfl,gb⟩:=hcut;have gp:=g6.grown gb.gr;have gw:=g9.grown gb.gr;have N:=gs.trans gb;(have hz:w.heap.size+2<=wc.heap.size:=by have:=gb.gr.size;simp at this;omega);clear g6 g9 x0 x1 x2 x3 gb gs;generalize wc=w2 at *;obtain⟨x0,x1,x2,x3,_,_,_,_⟩:=ab gp;cases bb with
  | true=>
   replace N:aw E (adv s) w w2:=N;(have gd:x.kind=18/\x.text≠(⟨#[95]⟩:BA)/\aS E.c s ⟨#[58,61]⟩=true:=by have:=gh.out.symm;simpa using this);have HE:=hid (show(F.expr E.c (adv s)).bind (fun v s1=>.ok (.mk 26 x.text [v] p) s1)=res by rw[<-gj.out,fQ,gF gd]);clear gd gh gj;cases hP:F.expr E.c (adv s)with
   |out=>exact absurd HE.out.symm (by rw[hP];exact hf.out)
   | ok n s3=>
    have HF:Hid (res=.ok (.mk 26 x.text [n] p) s3):=hid (by rw[<-HE.out,hP];rfl);have HC:=hid (fun W(hr:aU E W (adv s))=>hF.expr W _ hr (by rw[hP];exact nofun));rw[hP]at HC;clear HE hP;(have U:w.heap.size+1≠w.heap.size:=by omega);have g1:w2.drew.cell? ⟨w,1,none⟩=some (.string x.text):=x1;go_wp2_with fail;go_region_held3 (fun w'=>w'.cell? ⟨w,1,none⟩=some (.string x.text))
     (first|with_reducible exact y1|with_reducible exact z1|with_reducible exact g1|with_reducible exact(ab (J.alloc _)).2.1|(rw[gH _ _ _ _ (by exact U),gH _ _ _ _ (by exact U),gH _ _ _ _ (by exact U),gH _ _ _ _ (by exact U)];exact y1))
     (first
      |(go_at_call 41;refine(HC.out _ N.drew.rd).mono ?_;rintro e w7⟨⟨v,rfl,g2⟩,O⟩;obtain⟨A7,c7,rfl,gx⟩:=g2.toC;have J:=gp.drew.grown O.gr;have ge:=gw.drew.grown O.gr;obtain⟨z0,z1,z2,z3,_,_,_,_⟩:=ab J;have gt:=ge.lt;have g3:=J.lt)
      |(go_at_call 64;refine(aQ _ _ _ _ _ ⟨_,_,_,rfl⟩).mono ?_;rintro e w8⟨rfl,D⟩;have g5:=(J.alloc _).below D (by simp;omega);have M:=(ge.alloc _).below D (by simp;omega);obtain⟨y0,y1,y2,y3,_,_,_,_⟩:=ab g5;obtain⟨d0,d1,d2,d3,e0,e1,e2,e3⟩:=ab M))
    (all_goals go_wp2_with fail);have hg:w2.heap.size<=w7.heap.size:=O.gr.size;have hn:w2.drew.heap.size=w2.heap.size:=rfl;have ga:=((N.drew.trans O).alloc _).step D;have hV:=af.make 1 rfl (ag.one gx) 26 x.text p D;refine ma HF.out hV ga M (by omega) (by omega) ?_ rfl (by rfl) rfl;rintro b(⟨hb,_⟩|rfl)<;>constructor<;>omega
  | false=>
   replace N:aw E s w w2:=N;(have gd:¬ (x.kind=18/\x.text≠(⟨#[95]⟩:BA)/\aS E.c s ⟨#[58,61]⟩=true):=by rintro⟨a,b,c⟩;have:=gh.out;simp[a,b,c]at this);have HE:=hid (show(if aS E.c s ⟨#[61]⟩then(F.expr E.c (adv s)).bind fun v s1=>.ok (.mk 27 ⟨#[]⟩ [x,v] p) s1
    else if aS E.c s ⟨#[43,43]⟩then .ok (.mk 28 ⟨#[43,43]⟩ [x] p) (adv s)
    else if aS E.c s ⟨#[45,45]⟩then .ok (.mk 28 ⟨#[45,45]⟩ [x] p) (adv s)
    else if x.kind=21 then .ok (.mk 29 ⟨#[]⟩ [x] p) s else .out)=res by rw[<-gj.out,fQ,d5 gd])
   have g0:=(hC.mono (Y:=fun b=>w0.heap.size<=b/\b<w.heap.size) (fun b hb gg=>⟨hb,gg⟩)).keep (w':=w2) (ar.of_grown (X:=fun b=>w0.heap.size<=b/\b<w.heap.size) N.gr).block;clear gd gh gj;go_wp2_with fail;cases hA:aS E.c s ⟨#[61]⟩with
   | true=>
    have hi:=hid (show(F.expr E.c (adv s)).bind (fun v s1=>.ok (.mk 27 ⟨#[]⟩ [x,v] p) s1)=res by rw[<-HE.out];simp only[hA,kW]);clear HE;have HE:=hi;clear hi;refine(bB E s _ _ N.rd hA).mono ?_;rintro e w4⟨rfl,I⟩;have gn:=gp.grown I.gr;have gi:=gw.grown I.gr;have gq:=N.trans I;have hq:=g0.keep (w':=w4) (ar.of_grown (X:=fun b=>w0.heap.size<=b/\b<w.heap.size) I.gr).block;have hh:w2.heap.size<=w4.heap.size:=I.gr.size;clear hA I x0 x1 x2 x3 gp gw N g0;obtain⟨x0,x1,x2,x3,_,_,_,_⟩:=ab gn;cases hP:F.expr E.c (adv s)with
    |out=>exact absurd HE.out.symm (by rw[hP];exact hf.out)
    | ok n s3=>
     have HF:Hid (res=.ok (.mk 27 ⟨#[]⟩ [x,n] p) s3):=hid (by rw[<-HE.out,hP];rfl);have HC:=hid (fun W(hr:aU E W (adv s))=>hF.expr W _ hr (by rw[hP];exact nofun));rw[hP]at HC;clear HE hP;(have U:w.heap.size+1≠w.heap.size:=by omega);have hm:w4.drew.cell? ⟨w,0,none⟩=some (.int .i64 x.kind):=x0;have g1:w4.drew.cell? ⟨w,1,none⟩=some (.string x.text):=x1;have hl:w4.drew.cell? ⟨w,2,none⟩=some (.slice A x.kids.length cp):=x2;have hj:w4.drew.cell? ⟨w,3,none⟩=some (.int .i64 x.pos):=x3;go_wp2_with fail;go_region_held3 (fun w'=>w'.cell? ⟨w,0,none⟩=some (.int .i64 x.kind)/\w'.cell? ⟨w,1,none⟩=some (.string x.text)/\w'.cell? ⟨w,2,none⟩=some (.slice A x.kids.length cp)/\w'.cell? ⟨w,3,none⟩=some (.int .i64 x.pos))
      (refine⟨?_,?_,?_,?_⟩<;>first|with_reducible exact y0|with_reducible exact y1|with_reducible exact y2|with_reducible exact y3|with_reducible exact z0|with_reducible exact z1|with_reducible exact z2|with_reducible exact z3|with_reducible exact hm|with_reducible exact g1|with_reducible exact hl|with_reducible exact hj|with_reducible exact(ab (J.alloc _)).1|with_reducible exact(ab (J.alloc _)).2.1|with_reducible exact(ab (J.alloc _)).2.2.1|with_reducible exact(ab (J.alloc _)).2.2.2.1|(rw[gH _ _ _ _ (by exact U),gH _ _ _ _ (by exact U),gH _ _ _ _ (by exact U),gH _ _ _ _ (by exact U)];first|with_reducible exact y0|with_reducible exact y1|with_reducible exact y2|with_reducible exact y3))
      (first
       |(go_at_call 41;refine(HC.out _ gq.drew.rd).mono ?_;rintro e w7⟨⟨v,rfl,g2⟩,O⟩;obtain⟨A7,c7,rfl,gx⟩:=g2.toC;have J:=gn.drew.grown O.gr;have ge:=gi.drew.grown O.gr;obtain⟨z0,z1,z2,z3,_,_,_,_⟩:=ab J;have gt:=ge.lt;have g3:=J.lt)
       |(go_at_call 64;refine(aQ _ _ _ _ _ ⟨_,_,_,rfl⟩).mono ?_;rintro e w8⟨rfl,D⟩;have g5:=(J.alloc _).below D (by simp;omega);have M:=(ge.alloc _).below D (by simp;omega);obtain⟨y0,y1,y2,y3,_,_,_,_⟩:=ab g5;obtain⟨d0,d1,d2,d3,e0,e1,e2,e3⟩:=ab M))
     (all_goals go_wp2_with fail);have hg:w4.heap.size<=w7.heap.size:=O.gr.size;have hn:w4.drew.heap.size=w4.heap.size:=rfl;have ga:=((gq.drew.trans O).alloc _).step D;have hV:=af.make 2 rfl (ag.cons (((hq.keep (w:=w4) (w':=w4.drew) (fun _ _ _=>rfl)).keep (w':=w7) (ar.of_grown (X:=fun b=>w0.heap.size<=b/\b<w.heap.size) O.gr).block).mono (Y:=fun b=>w0.heap.size<=b/\b≠w.heap.size+1) (fun b hb _=>⟨hb.1,by omega⟩)) (ag.one (gx.mono (Y:=fun b=>w0.heap.size<=b/\b≠w.heap.size+1) (fun b hb _=>by constructor<;>omega)))) 27 ⟨#[]⟩ p D;refine ma HF.out hV ga M (by omega) (by omega) ?_ rfl (by rfl) rfl;rintro b(⟨hb,_⟩|rfl)<;>constructor<;>omega
   | false=>
    refine(cc E s _ _ N.rd hA).mono ?_;rintro e w3⟨rfl,gm⟩;have gz:=gp.below gm.bel (by omega);have g8:=gw.below gm.bel (by omega);have gv:=N.trans gm.moved;have he:=g0.keep (w':=w3) (fun b _ gg=>gm.bel.block b gg);have hy:w2.heap.size<=w3.heap.size:=gm.bel.size;clear gp gw N g0 gm x0 x1 x2 x3;obtain⟨x0,x1,x2,x3,_,_,_,_⟩:=ab gz;go_wp2_with fail;cases hB:aS E.c s ⟨#[43,43]⟩with
    |true=>have HF:=hid (show res=.ok (.mk 28 ⟨#[43,43]⟩ [x] p) (adv s)by rw[<-HE.out];simp[hA,hB]);refine(bB E s _ _ gv.rd hB).mono ?_;rintro e w4⟨rfl,I⟩;have gn:=gz.grown I.gr;have gi:=g8.grown I.gr;have gq:=gv.trans I;have ha:=he.keep (w':=w4) (ar.of_grown (X:=fun b=>w0.heap.size<=b/\b<w.heap.size) I.gr).block;have hh:w3.heap.size<=w4.heap.size:=I.gr.size;clear HE hA hB I x0 x1 x2 x3;obtain⟨x0,x1,x2,x3,_,_,_,_⟩:=ab gn;have g4:=gi.lt;go_wp2_with fail;refine(aQ _ _ _ _ _ ⟨_,_,_,rfl⟩).mono ?_;rintro e w8⟨rfl,D⟩;have hV:=af.make 1 rfl (ag.one ha) 28 ⟨#[43,43]⟩ p D;have M:=(gi.alloc _).below D (by simp;omega);have ga:=(gq.alloc _).step D;obtain⟨d0,d1,d2,d3,e0,e1,e2,e3⟩:=ab M;clear D;go_wp2_with fail;refine ma HF.out hV ga M (by omega) (by omega) ?_ rfl (by rfl) rfl;rintro b(⟨hb,_⟩|rfl)<;>constructor<;>omega
    | false=>
     refine(cc E s _ _ gv.rd hB).mono ?_;rintro e w5⟨rfl,gl⟩;have gy:=gz.below gl.bel (by omega);have g7:=g8.below gl.bel (by omega);have gu:=gv.trans gl.moved;have hc:=he.keep (w':=w5) (fun b _ gg=>gl.bel.block b gg);have hw:w3.heap.size<=w5.heap.size:=gl.bel.size;clear gz g8 gv he gl x0 x1 x2 x3;obtain⟨x0,x1,x2,x3,_,_,_,_⟩:=ab gy;go_wp2_with fail;cases hD:aS E.c s ⟨#[45,45]⟩with
     |true=>have HF:=hid (show res=.ok (.mk 28 ⟨#[45,45]⟩ [x] p) (adv s)by rw[<-HE.out];simp[hA,hB,hD]);refine(bB E s _ _ gu.rd hD).mono ?_;rintro e w4⟨rfl,I⟩;have gn:=gy.grown I.gr;have gi:=g7.grown I.gr;have gq:=gu.trans I;have ha:=hc.keep (w':=w4) (ar.of_grown (X:=fun b=>w0.heap.size<=b/\b<w.heap.size) I.gr).block;have hh:w5.heap.size<=w4.heap.size:=I.gr.size;clear HE hA hB hD I x0 x1 x2 x3;obtain⟨x0,x1,x2,x3,_,_,_,_⟩:=ab gn;have g4:=gi.lt;go_wp2_with fail;refine(aQ _ _ _ _ _ ⟨_,_,_,rfl⟩).mono ?_;rintro e w8⟨rfl,D⟩;have hV:=af.make 1 rfl (ag.one ha) 28 ⟨#[45,45]⟩ p D;have M:=(gi.alloc _).below D (by simp;omega);have ga:=(gq.alloc _).step D;obtain⟨d0,d1,d2,d3,e0,e1,e2,e3⟩:=ab M;clear D;go_wp2_with fail;refine ma HF.out hV ga M (by omega) (by omega) ?_ rfl (by rfl) rfl;rintro b(⟨hb,_⟩|rfl)<;>constructor<;>omega
     |false=>
      refine(cc E s _ _ gu.rd hD).mono ?_;rintro e w7⟨rfl,gk⟩;have J:=gy.below gk.bel (by omega);have ge:=g7.below gk.bel (by omega);have hp:=gu.trans gk.moved;have gx:=hc.keep (w':=w7) (fun b _ gg=>gk.bel.block b gg);have hg:w5.heap.size<=w7.heap.size:=gk.bel.size;clear gy g7 gu hc gk x0 x1 x2 x3;have gt:=ge.lt;obtain⟨x0,x1,x2,x3,_,_,_,_⟩:=ab J;have HT:=hid (show(if x.kind=21 then .ok (.mk 29 ⟨#[]⟩ [x] p) s else .out)=res by rw[<-HE.out];simp[hA,hB,hD]);clear HE hA hB hD;go_wp2_with fail
      ·(have hk:(x.kind != 21)=true:=by assumption);have HF:Hid (res=.out):=hid (by rw[<-HT.out,d5 (by simpa using hk)]);exact absurd (HF.out) hf.out
      ·(have hk:(x.kind != 21)=false:=by assumption);have HF:Hid (res=.ok (.mk 29 ⟨#[]⟩ [x] p) s):=hid (by rw[<-HT.out,gF (by simpa using hk)]);refine(aQ _ _ _ _ _ ⟨_,_,_,rfl⟩).mono ?_;rintro e w8⟨rfl,D⟩;have hV:=af.make 1 rfl (ag.one gx) 29 ⟨#[]⟩ p D;have M:=(ge.alloc _).below D (by simp;omega);have ga:=(hp.alloc _).step D;obtain⟨d0,d1,d2,d3,e0,e1,e2,e3⟩:=ab M;clear D;go_wp2_with fail;refine ma HF.out hV ga M (by omega) (by omega) ?_ rfl (by rfl) rfl;rintro b(⟨hb,_⟩|rfl)<;>constructor<;>omega
theorem DR(E:cy)(F:iE)(hF:pw E F)(hR:uC E F):eC E (fq F) 235:=by
 intro w s h hno;generalize I:fq F E.c s=res at *;have gh:=hid I;have gn:=hid hno;have ge:=h.lt;clear I hno;(go_enter func235,ntmps235);go_wp2_with fail;refine(b8 E s _ (h.alloc _)).mono ?_;unfold iI;rintro e w1⟨rfl,U⟩;have gi:=((cN.refl h).alloc _).step U;have gx:=(an.new w 24 bP).below U (by simp);have gy:=U.size;simp at gy;clear U;have HE:=hid (show(F.expr E.c s).bind (fun x s1=>if aS E.c s1 ⟨#[123]⟩then .ok x s1 else fQ F (aM E.c s) x E.c s1)=res from gh.out);clear gh;go_wp2_with fail;cases hP:F.expr E.c s with
 |out=>exact absurd HE.out.symm (by rw[hP];exact gn.out)
 | ok n s1=>
  have gp:=hid (show(if aS E.c s1 ⟨#[123]⟩then .ok n s1 else fQ F (aM E.c s) n E.c s1)=res by rw[<-HE.out,hP];rfl);refine(hF.expr w1 s gi.rd (by rw[hP];exact nofun)).mono ?_;rw[hP];rintro e w3⟨⟨v,rfl,hv⟩,N⟩;obtain⟨A3,c3,rfl,g0⟩:=hv.toC;have gw:=gx.grown N.gr;have gu:=gi.moved.trans N;have g3:=N.gr.size;have gj:=an.new w3 24 (nv n A3 c3);have J:=gu.alloc (.cells (nv n A3 c3) 24);have gm:=gw.alloc (.cells (nv n A3 c3) 24);have M:=(aj w3 (nv n A3 c3)).1;have gl:=hv.keep (w':=w3.alloc (.cells (nv n A3 c3) 24)) fun b _ hlt=>M.block b hlt;have gg:=N.gr.trans (de (some E.R) M);have g2:=M.size;(have O:w3.heap.size<(w3.alloc (.cells (nv n A3 c3) 24)).heap.size:=by simp);clear hP HE hv g0 gu gw gx N M;go_wp2_with fail;cases hA:aS E.c s1 ⟨#[123]⟩with
  |true=>have HF:Hid (res=.ok n s1):=hid (by rw[<-gp.out,gF hA]);refine(bU E s1 ⟨#[123]⟩ _ J.rd).mono ?_;rw[hA];rintro e w5⟨rfl,D⟩;have gd:=gm.bl D;have ga:=gj.below D O;have gb:=(aw.trans J ((cN.refl J.rd).step D).moved);have gk:=gl.keep (w':=w5) fun b _ hlt=>D.block b hlt;obtain⟨x0,x1,x2,x3,-,-,-,-⟩:=ab ga;obtain⟨d0,d1,d2,d3,e0,e1,e2,e3⟩:=ab gd;go_wp2_with fail;refine aC HF.out gk gb gd (gA _) ge ?_ rfl (by rfl) rfl;intro b hb;constructor<;>omega
  |false=>
   have HF:Hid (fQ F (aM E.c s) n E.c s1=res):=hid (by rw[<-gp.out,d5 (by rw[hA];decide)]);refine(bU E s1 ⟨#[123]⟩ _ J.rd).mono ?_;rw[hA];rintro e w5⟨rfl,D⟩;have gd:=gm.bl D;have ga:=gj.below D O;have gb:=(aw.trans J ((cN.refl J.rd).step D).moved);have gk:=gl.keep (w':=w5) fun b _ hlt=>D.block b hlt;have gt:=gg.trans (de (some E.R) D);have g1:=D.size;obtain⟨x0,x1,x2,x3,-,-,-,-⟩:=ab ga;clear hA gp D ga gj gm J gl gg;go_wp2_with fail;refine(hR w1 w5 s1 _ n _ gi.rd.lt gt gb.rd gk (by rw[show fQ F (ay E.c s.at_).pos n E.c s1=res from HF.out];exact gn.out)).mono ?_;rw[show fQ F (ay E.c s.at_).pos n E.c s1=res from HF.out];unfold uB;cases I:res with
   |out=>exact absurd I gn.out
   |ok n5 s5=>rintro e w6⟨⟨v6,rfl,gq⟩,gs⟩;obtain⟨A6,c6,rfl,g4⟩:=gq.toC;have gv:=gd.grown gs.gr;have gz:=gb.trans gs;obtain⟨d0,d1,d2,d3,e0,e1,e2,e3⟩:=ab gv;go_wp2_with fail;refine aC (by first|rfl|exact I) gq gz gv (gA _) ge ?_ rfl (by rfl) rfl;intro b hb;constructor<;>omega
theorem uE(E:cy)(F:iE)(hF:pw E F):eC E (cY F) 188:=by
 intro w s h hno;generalize D:cY F E.c s=res at *;have J:=hid D;have ga:=hid hno;have I:=h.lt;have O:aw E { s with part:=s.at_ } w ((w.setCell ⟨E.R,4,none⟩ (.int .i64 (s.at_:Int))).alloc (.cells bP 24)):=((aw.refl h).setPart (s.at_:Int)).alloc _;have gd:an ((w.setCell ⟨E.R,4,none⟩ (.int .i64 (s.at_:Int))).alloc (.cells bP 24)) w.heap.size 24 bP:=an.new_at (by simp[World.setCell]) _ _;(have gg:w.heap.size+1<=((w.setCell ⟨E.R,4,none⟩ (.int .i64 (s.at_:Int))).alloc (.cells bP 24)).heap.size:=by simp[World.setCell]);obtain⟨c0,c1,c2,c3,c4,cf⟩:=h.cells;have ge:=cf 4;have gh:=qi I;clear D hno cf;have HE:Hid (F.expr E.c { s with part:=s.at_ }=res):=hid J.out;clear J;(go_enter func188,ntmps188);go_wp2_with fail;refine(hF.expr _ { s with part:=s.at_ } O.rd (by rw[HE.out];exact ga.out)).mono ?_;rw[HE.out];cases D:res with
 |out=>exact absurd D ga.out
 |ok n5 s5=>rintro e w5⟨⟨v5,rfl,M⟩,N⟩;obtain⟨A5,c5,rfl,gi⟩:=M.toC;have U:=gd.grown N.gr;have gb:=O.trans N;clear c0 c1 c2 c3 c4 ge;obtain⟨d0,d1,d2,d3,e0,e1,e2,e3⟩:=ab U;go_wp2_with fail;refine aC (by first|rfl|exact D) M gb U (gA _) I ?_ rfl (by rfl) rfl;intro b hb;constructor<;>omega
theorem Li(E:cy)(F:iE)(hF:pw E F)(hR:uC E F):eC E (ne F) 236:=by
 intro w s h hno;generalize hres:ne F E.c s=res at *;have N:=hid hres;have ge:=hid hno;have J:=h.lt;have gh:=h.most;have gd:an (w.alloc (.cells bP 24)) w.heap.size 24 bP:=an.new w _ _;have O:aw E s w (w.alloc (.cells bP 24)):=(aw.refl h).alloc _;obtain⟨c0,c1,c2,c3,c4,cf⟩:=h.cells;have gg:=qi J;clear hres hno cf;have HE:=hid (show(ii F E.c s).bind (fun x s1=>if x.kind=26 then .out else .ok x s1)=res from N.out);clear N;(have gp:w.heap.size+1<=(w.alloc (.cells bP 24)).heap.size:=by simp);(go_enter func236,ntmps236);go_wp2_with fail;cases hP:ii F E.c s with
 |out=>exact absurd HE.out.symm (by rw[hP];exact ge.out)
 |ok n s1=>
  have U:=hid (show(if n.kind=26 then .out else .ok n s1)=res by rw[<-HE.out,hP];rfl);refine(uD E F hF hR _ s O.rd (by rw[hP];exact nofun)).mono ?_;rw[hP];rintro e w3⟨⟨v,rfl,hv⟩,I⟩;obtain⟨A3,D,rfl,gm⟩:=hv.toC;have gb:=gd.grown I.gr;have gl:=O.trans I;have gn:=I.gr.size;have gi:=an.new w3 24 (nv n A3 D);have gk:=gl.alloc (.cells (nv n A3 D) 24);have ga:=gb.alloc (.cells (nv n A3 D) 24);have M:=(aj w3 (nv n A3 D)).1;have gj:=hv.keep (w':=w3.alloc (.cells (nv n A3 D) 24)) fun b _ hlt=>M.block b hlt;clear hP HE hv gm O gb gd I M c0 c1 c2 c3 c4 gg;obtain⟨x0,x1,x2,x3,-,-,-,-⟩:=ab gi;obtain⟨d0,d1,d2,d3,e0,e1,e2,e3⟩:=ab ga;by_cases hk:n.kind=26
  ·have HF:Hid (res=.out):=hid (by rw[<-U.out,gF hk]);exact absurd (HF.out) ge.out
  ·have HF:Hid (res=.ok n s1):=hid (by rw[<-U.out,d5 hk]);(have gq:(n.kind==26)=false:=by simp[hk]);clear hk U;go_wp2_with fail;refine aC HF.out gj gk ga (gA _) J ?_ rfl (by rfl) rfl;intro b hb;constructor<;>omega
end
section
open Go.RowKit Go.Lib Go.Proofs
structure lE(B:Nat)(Z:Nat->Prop)(w:World)(v:Value)(l:List Nd):Prop where
 out:∃xs,w.ownsRow B 24 4 v l.length xs/\ag (fun b=>B<=b/\some b≠v.ownBlock/\¬ Z b) w l xs
 far:∀g,v.ownBlock=some g->¬ Z g
section
variable {B:Nat} {Z:Nat->Prop} {w w':World} {v:Value} {l:List Nd}
theorem lE.nil(B:Nat)(Z:Nat->Prop)(w:World):lE B Z w (.slice none 0 0) []:=⟨⟨[],vc _ _ _ _,ag.nil⟩,fun g h=>by simp[Value.ownBlock]at h⟩
theorem lE.keep(h:lE B Z w v l)(J:∀b,B<=b->¬ Z b->b<w.heap.size->w'.heap[b]? = w.heap[b]?):lE B Z w' v l:=by
 obtain⟨xs,N,O⟩:=h.out;refine⟨⟨xs,⟨N.1,?_⟩,O.keep fun b hb D=>J b hb.1 hb.2.2 D⟩,h.far⟩;rcases N.2 with U|⟨g,cap,cur,e,M,I,r⟩
 ·exact .inl U
 ·refine .inr ⟨g,cap,cur,e,M,?_,r⟩;have D:g<w.heap.size:=by
   rcases kN g w.heap.size with D|hge
   ·exact D
   ·rw[kO hge]at I;cases I
  exact(J g M (h.far g (by rw[e];rfl)) D).trans I
theorem lE.kept(h:lE B Z w v l)(D:ar (fun b=>B<=b/\¬ Z b) w w'):lE B Z w' v l:=h.keep fun b J I h3=>D.block b ⟨J,I⟩ h3
theorem lE.grown{R:Nat}(h:lE B Z w v l)(D:w.grownBy w' (some R))(I:R<B):lE B Z w' v l:=
 h.keep fun b hb _ hlt=>D.block b hlt (fun e=>by injection e;omega)
theorem lE.lt(h:lE B Z w v l):∀g,v.ownBlock=some g->B<=g/\g<w.heap.size:=by obtain⟨xs,D,_⟩:=h.out;exact fun g hg=>D.lt g hg
theorem lE.values(h:lE B Z w v l):cS (fun b=>B<=b/\¬ Z b) w v l:=by
 obtain⟨xs,D,J⟩:=h.out;rcases D.2 with⟨rfl,h0⟩|⟨g,cap,cur,rfl,hg,U,I,_,N,M⟩
 ·exact⟨none,0,xs,by rw[h0],by omega,⟨D.1,fun h=>by omega⟩,J.mono fun b hb _=>⟨hb.1,hb.2.2⟩⟩
 ·refine⟨_,cap,xs,rfl,I,⟨D.1,fun _=>⟨g,0,rfl,⟨hg,h.far g rfl⟩,fun j u hu=>?_⟩⟩,J.mono fun b hb _=>⟨hb.1,hb.2.2⟩⟩;(have O:j<l.length*4:=by have:=(List.getElem?_eq_some_iff.1 hu).1;rw[D.1]at this;exact this);rw[kS];unfold World.cell?;rw[U];simp only[qo,jC,kI];rw[<-M,vj O]at hu;rw[<-hu];simp
theorem lE.form(h:lE B Z w v l):∃A c,v=.slice A l.length c/\l.length<=c:=by obtain⟨A,c,xs,e,D,_⟩:=h.values;exact⟨A,c,e,D⟩
theorem lE.one{K S:Nat}{n:Nd}{a b c d:Value}{w1:World}(hb:an w K 24 #[a,b,c,d])(I:B<=K)(hK:w1.heap.size=K)(O:bo (fun b=>S<=b) w1 n [a,b,c,d])(U:B<=S)
  (N:∀b,S<=b->b<w1.heap.size->w.heap[b]? = w1.heap[b]?)(J:∀b,S<=b->b<=K->¬ Z b)(D:S<=K):lE B Z w (.slice (some ⟨K,0,none⟩) 1 1) [n]:=by
 refine⟨⟨[a,b,c,d],⟨rfl,.inr ⟨K,1,#[a,b,c,d],rfl,I,hb,gA _,by unfold maxLen;omega,rfl,rfl⟩⟩,?_⟩,fun g hg=>?_⟩
 ·have h1:=ag.one (O.mono (Y:=fun b=>S<=b/\b<K) fun b hb hlt=>⟨hb,by omega⟩);have h:=h1.keep (w':=w) fun b hb hlt=>N b hb.1 hlt;refine h.mono fun b hb _=>⟨by omega,fun e=>?_,J b hb.1 (by omega)⟩;(have M:b=K:=by simpa[Value.ownBlock]using e);omega
 ·(have M:K=g:=by simpa[Value.ownBlock]using hg);subst M;exact J K D (gA _)
end
structure EQ(E:cy)(s:St)(B:Nat)(Z:Nat->Prop)(w w1 w2:World)(v':Value)(l:List Nd):Prop where
 own:lE B Z w2 v' l
 mov:aw E s w w2
 old:∀b,b<w1.heap.size->(Z b\/b<B)->w2.heap[b]? = w1.heap[b]?
 le:w1.heap.size<=w2.heap.size
theorem IR{o:Oper}{a:Act}{K:Act->World->Prop}{Q:Exit->Act->World->Prop}(s x:Operand)
  (ho:o.op=.call { callee:=.builtin .append,args:=#[s,x],argTypes:=#[22,22] })
  (E:cy)(st:St)(B S:Nat)(Z:Nat->Prop)(w w1:World)(u:Value)(l:List Nd)(n:Nd)(A:Option Addr)(cap:Nat)(hs:a.eval s=u)(hx:a.eval x=.slice (some ⟨w1,0,none⟩) 1 1)
  (hO:lE B Z w1 u l)(I:aw E st w w1)(gk:w.heap.size<=B)(hR:E.R<B)(hB:B<=S)(hS:S<=w1.heap.size)(hZ:∀b,Z b->b<S)(hu:∀g,u.ownBlock=some g->g<S)(hl:l.length<=1000000)
  (hV:bo (fun b=>S<=b) w1 n [.int .i64 n.kind,.string n.text,.slice A n.kids.length cap,.int .i64 n.pos])
  (h:∀g c w2,EQ E st B Z w w1 w2 (.slice (some ⟨g,0,none⟩) (l.length+1) c) (l++[n])->K (a.put o.dst (.slice (some ⟨g,0,none⟩) (l.length+1) c)) w2):
  o.wp prog a (w1.alloc (.cells (nv n A cap) 24)) K Q:=by
 obtain⟨i0,hi,gg,ge,gd⟩:=qO oK;obtain⟨xs,O,gi⟩:=hO.out;refine vx _ s x 22 ho B 24 i0 _ 4 56 underlying22 hi gg ge gd rfl (by omega) u l.length xs hs (O.alloc _) ⟨w1,0,none⟩ 1 1 [.int .i64 n.kind,.string n.text,.slice A n.kids.length cap,.int .i64 n.pos] hx rfl
  (qz (cs:=(nv n A cap)) (qu _ _)) (rI n A cap) (by omega) (by unfold maxLen;omega) (by omega) (by rw[jL];omega) _ rfl ?_
 intro g c w2 hown1 N gb _;have gh:∀g,u.ownBlock=some g->B<=g:=fun g N=>(hO.lt g N).1;have J:∀b,b<w1.heap.size->some b≠u.ownBlock->w2.heap[b]? = w1.heap[b]? :=fun b hb hne=>(N.block b (by rw[jL];omega) hne).trans (jF w1 _ b hb);have hold:∀b,b<w1.heap.size->(Z b\/b<B)->w2.heap[b]? = w1.heap[b]? :=fun b hb gj=>J b hb (fun e=>by
  rcases gj with h|h
  ·exact hO.far b e.symm h
  ·have:=gh b e.symm;omega)
 have U:w1.heap.size<=w2.heap.size:=kC (by rw[jL];omega) N.size;have ga:¬ Z g:=by
  rcases gb with e|e
  ·exact hO.far g e
  ·rw[jL]at e;intro hz;have:=hZ g hz;omega
 have M:ag (fun b=>B<=b/\some b≠(Value.slice (some ⟨g,0,none⟩) (l.length+1) c).ownBlock/\¬ Z b) w2 (l++[n]) (xs++[.int .i64 n.kind,.string n.text,.slice A n.kids.length cap,.int .i64 n.pos]):=by
  have h1:ag (fun b=>B<=b/\some b≠u.ownBlock/\¬ Z b/\b<w1.heap.size) w1 (l++[n]) (xs++[.int .i64 n.kind,.string n.text,.slice A n.kids.length cap,.int .i64 n.pos]):=
   (gi.mono fun b hb D=>⟨hb.1,hb.2.1,hb.2.2,D⟩).app (ag.one (hV.mono fun b hb D=>⟨kC hB hb,fun e=>by have:=hu b e.symm;omega,fun hz=>by have:=hZ b hz;omega,D⟩))
  have h2:=h1.keep (w':=w2) fun b hb D=>J b D hb.2.1;refine h2.mono fun b hb _=>⟨hb.1,fun e=>?_,hb.2.2.1⟩;(have e3:b=g:=by simpa[Value.ownBlock]using e);subst e3;rcases gb with e|e
  ·exact hb.2.1 e.symm
  ·rw[jL]at e;have:=hb.2.2.2;omega
 refine h g c w2 ⟨⟨⟨_,by rw[gL];exact hown1,M⟩,fun g' hg'=>?_⟩,⟨I.rd.keep fun b hb=>?_,?_⟩,hold,U⟩
 ·(have e3:g=g':=by simpa[Value.ownBlock]using hg');rw[<-e3];exact ga
 ·exact hold b (Nat.lt_of_le_of_lt hb I.rd.lt) (.inr (by omega))
 ·refine⟨N.os.trans I.gr.os,N.tape.trans I.gr.tape,N.output.trans I.gr.output,kC I.gr.size U,fun k hk hne=>?_⟩;exact(hold k (kH hk I.gr.size) (.inr (by omega))).trans (I.gr.block k hk hne)
theorem un{ops:Array Oper}{o:Oper}{a:Act}{K:Act->World->Prop}{Q:Exit->Act->World->Prop}{D:Prop}(J:o.guard=none)(s x:Operand)
  (U:o.op=.call { callee:=.builtin .append,args:=#[s,x],argTypes:=#[22,22] })
  (E:cy)(st:St)(B S:Nat)(Z:Nat->Prop)(w w1:World)(u:Value)(l:List Nd)(n:Nd)(A:Option Addr)(cap:Nat)(hs:a.eval s=u)(M:a.eval x=.slice (some ⟨w1,0,none⟩) 1 1)
  (hO:lE B Z w1 u l)(hm:aw E st w w1)(I:w.heap.size<=B)(hR:E.R<B)(hB:B<=S)(hS:S<=w1.heap.size)(hZ:∀b,Z b->b<S)(O:∀g,u.ownBlock=some g->g<S)(hl:l.length<=1000000)
  (hV:bo (fun b=>S<=b) w1 n [.int .i64 n.kind,.string n.text,.slice A n.kids.length cap,.int .i64 n.pos])
  (h:∀g c w2,EQ E st B Z w w1 w2 (.slice (some ⟨g,0,none⟩) (l.length+1) c) (l++[n])->K (a.put o.dst (.slice (some ⟨g,0,none⟩) (l.length+1) c)) w2):
  if Region.wanted o (yielded ops a.tmps)=true then Oper.wp prog o a (w1.alloc (.cells (nv n A cap) 24)) K Q else D:=by(have N:Region.wanted o (yielded ops a.tmps)=true:=by simp[Region.wanted,J]);rw[gF N];exact IR s x U E st B S Z w w1 u l n A cap hs M hO hm I hR hB hS hZ O hl hV h
def iO(w:World)(K o:Nat)(a b c d:Value):World:=(((w.setCell ⟨K,o,none⟩ a).setCell ⟨K,o+1,none⟩ b).setCell ⟨K,o+2,none⟩ c).setCell ⟨K,o+3,none⟩ d
section
variable {E:cy} {s:St} {w wk:World} {K o:Nat} {a b c d:Value}
theorem DS:(iO wk K o a b c d).heap.size=wk.heap.size:=by simp[iO]
theorem mH(h:aw E s w wk)(D:w.heap.size<=K)(I:E.R<K)(a b c d:Value):aw E s w (iO wk K o a b c d):=
 (((h.own (p:=⟨K,o,none⟩) D I a).own (p:=⟨K,o+1,none⟩) D I b).own (p:=⟨K,o+2,none⟩) D I c).own (p:=⟨K,o+3,none⟩) D I d
theorem fz{X:Nat->Prop}(D:∀b,X b->b≠K):ar X wk (iO wk K o a b c d):=
 ((((ar.refl X wk).setCell (p:=⟨K,o,none⟩) (fun h=>D K h rfl) a).setCell (p:=⟨K,o+1,none⟩) (fun h=>D K h rfl) b).setCell (p:=⟨K,o+2,none⟩) (fun h=>D K h rfl) c).setCell (p:=⟨K,o+3,none⟩) (fun h=>D K h rfl) d
theorem pA{g:Nat}{t:TypeId}{cs:Array Value}(h:an wk g t cs)(D:g≠K):an (iO wk K o a b c d) g t cs:=
 (((h.far (p:=⟨K,o,none⟩) D a).far (p:=⟨K,o+1,none⟩) D b).far (p:=⟨K,o+2,none⟩) D c).far (p:=⟨K,o+3,none⟩) D d
theorem lh{t:TypeId}{cs:Array Value}(h:an wk K t cs):an (iO wk K o a b c d) K t ((((cs.setIfInBounds o a).setIfInBounds (o+1) b).setIfInBounds (o+2) c).setIfInBounds (o+3) d):=
 (((h.set_ o a).set_ (o+1) b).set_ (o+2) c).set_ (o+3) d
end
end
end Go.Proofs.YtiebcdeafofgdaaGreatDoor
