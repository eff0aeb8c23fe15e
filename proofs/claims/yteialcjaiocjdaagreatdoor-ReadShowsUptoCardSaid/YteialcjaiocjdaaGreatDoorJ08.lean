/-
  Parts of the proof: Rsimple Rrest Rhead Rpost Tkit Rput. By an AI agent.
-/
import Derived.Test.YteialcjaiocjdaaGreatDoorJ07
import Derived.Test.YteialcjaiocjdaaGreatDoorJ06
import Derived.Test.YteialcjaiocjdaaGreatDoorJ02
open Go.Proofs.Tryz
set_option maxRecDepth 100000
set_option maxHeartbeats 8000000
namespace Go.Proofs.YteialcjaiocjdaaGreatDoor
section
open Go.RowKit Go.Lib Go.Proofs
attribute [local go_sem ↓] Go.wp_at_zero Go.wp_at_succ
attribute [local go_sem] aR aS aT bu bv bw bz
def uU(E:cw)(w0 w:World)(r:bQ Nd)(e:Ending)(w':World):Prop:=
 match r with
 | .ok n s=>(∃v,e=.returned v/\af (fun b=>w0.heap.size<=b) w' v n)/\aA E s w w'
 | .out=>False
def uV(E:cw)(F:fK):Prop:=
 ∀ (w0 w:World)(s:St)(p:Int)(x:Nd)(v:Value),E.R<w0.heap.size->w0.grownBy w (some E.R)->aU E w s->af (fun b=>w0.heap.size<=b) w v x->ic F p x E.c s≠.out ->
   Calls prog 213 #[E.R,p,v] w (uU E w0 w (ic F p x E.c s))
theorem uW(E:cw)(F:fK)(hF:nE E F)(hR:uV E F):d9 E (iC F) 171:=by
 intro w s h hno;generalize D:iC F E.c s=res at *;have M:=hid D;have O:=hid hno;have gb:=h.lt;clear D hno;(go_enter func171,ntmps171);go_wp2_with fail;refine(bL E s _ (h.alloc _)).mono ?_;unfold fY;rintro e w1⟨rfl,J⟩;have N:=((cJ.refl h).alloc _).step J;have gk:=(aq.new w 24 bJ).below J (by simp);have gg:=J.size;clear J;have HE:=hid (show(F.expr E.c s).bind (fun x s1=>ic F (aD E.c s) x E.c s1)=res from M.out);clear M;go_wp2_with fail;cases hP:F.expr E.c s with
 |out=>exact absurd HE.out.symm (by rw[hP];exact O.out)
 |ok n s1=>
  have ge:Hid (ic F (aD E.c s) n E.c s1=res):=hid (by rw[<-HE.out,hP];rfl);refine(hF.expr w1 s N.rd (by rw[hP];exact nofun)).mono ?_;rw[hP];rintro e w3⟨⟨v,rfl,hv⟩,I⟩;have gj:=gk.grown I.gr;have gi:=N.moved.trans I;clear hP HE;go_wp2_with fail;refine(hR w1 w3 s1 _ n v N.rd.lt I.gr I.rd hv (by rw[show ic F (az E.c s.at_).pos n E.c s1=res from ge.out];exact O.out)).mono ?_;rw[show ic F (az E.c s.at_).pos n E.c s1=res from ge.out];unfold uU;cases D:res with
  |out=>exact absurd D O.out
  |ok n5 s5=>rintro e w5⟨⟨v5,rfl,U⟩,ga⟩;obtain⟨A5,c5,rfl,gl⟩:=U.toC;have gd:=gj.grown ga.gr;have gh:=gi.trans ga;obtain⟨d0,d1,d2,d3,e0,e1,e2,e3⟩:=ab gd;go_wp2_with fail;refine av (by first|rfl|exact D) U gh gd (gC _) gb ?_ rfl (by rfl) rfl;intro b hb;simp at gg;constructor<;>omega
theorem mn{E:cw}{w0 w wk:World}{res:bQ Nd}{n:Nd}{s:St}{X:Nat->Prop}{a0 a1 a2 a3 z0 z1 z2 z3:Value}{g q:Nat}{fn:Func}{a:Act}(N:res=.ok n s)
  (J:af X wk (.agg #[a0,a1,a2,a3]) n)(O:aA E s w wk)(hb:aq wk g 24 #[z0,z1,z2,z3])(U:w.heap.size<=g)(h:E.R<g)(I:∀b,X b->w0.heap.size<=b/\b≠g)
  (D:fn.results = #[.cell q 24])(M:a.tmps.getD q undef=.pointer (some ⟨g,0,none⟩))(hd:a.defers=[]):
  bodyPost prog fn (uU E w0 w res) .ret a (dT wk g a0 a1 a2 a3):=by refine jY (eB D _ M (dy hb a0 a1 a2 a3)) hd ?_;rw[N];exact⟨⟨_,rfl,(J.kept (dn (fun b hb=>(I b hb).2) _ _ _ _)).mono fun b hb _=>(I b hb).1⟩,fi O U h _ _ _ _⟩
theorem L5(E:cw)(F:fK)(hF:nE E F):uV E F:=by
 intro w0 w s p x v hR0 hgr0 h hv hno;obtain⟨A,cp,rfl,hC⟩:=hv.toC;generalize hres:ic F p x E.c s=res at *;have gj:=hid hres;have hf:=hid hno;have hu:=h.lt;have h0:=hgr0.size;clear hres hno;(go_enter func213,ntmps213);have g6:=(aq.new w 24 (nv x A cp)).alloc (.cells bJ 24);have g9:=aq.new (w.alloc (.cells (nv x A cp) 24)) 24 bJ;rw[show(w.alloc (.cells (nv x A cp) 24)).heap.size=w.heap.size+1 by simp]at g9;have gs:=((aA.refl h).alloc (.cells (nv x A cp) 24)).alloc (.cells bJ 24);obtain⟨x0,x1,x2,x3,_,_,_,_⟩:=ab g6;let bb:Bool:=decide (x.kind=18)&&(decide (x.text≠(⟨#[95]⟩:BA))&&aP E.c s ⟨#[58,61]⟩);have gh:Go.RowKit.Hid (bb=(decide (x.kind=18)&&(decide (x.text≠(⟨#[95]⟩:BA))&&aP E.c s ⟨#[58,61]⟩))):=hid rfl;clear_value bb;(go_upto_region 1 with fail);go_cut [7] (fun s7 wx=>s7=.bool bb/\aA E (if bb=true then adv s else s) ((w.alloc (.cells (nv x A cp) 24)).alloc (.cells bJ 24)) wx)
 case first=>
  have hT:=hid (show decide (x.text≠(⟨#[95]⟩:BA)) = !(x.text.toList==[95])by rw[show([95]:List UInt8)=((⟨#[95]⟩:BA):ByteArray).toList from by kernel_rfl,cz];simp);go_wp2_with fail
  ·(have ht:x.text.toList=[95]:=by assumption);(have hk:x.kind=18:=by assumption);have e:=hT.out;rw[ht]at e;(have hb:bb=false:=by rw[gh.out,e];simp);subst hb;rw[<-hk];clear hk;go_meet;exact⟨rfl,by rw[gB (by decide)];exact aA.refl gs.rd⟩
  ·(have ht:¬ x.text.toList=[95]:=by assumption);(have hk:x.kind=18:=by assumption);have e:Hid (decide (x.text≠(⟨#[95]⟩:BA))=true):=hid (by rw[hT.out];simpa using ht);have hb:=hid (show bb=aP E.c s ⟨#[58,61]⟩by rw[gh.out,e.out,hk];simp);rw[<-hk];have HK:=hid hk;clear hk;cases hA:aP E.c s ⟨#[58,61]⟩with
   |true=>rw[hA]at hb;obtain rfl:=hb.out;refine(aZ E s _ _ gs.rd hA).mono ?_;rintro e1 w1⟨rfl,gb⟩;clear hA;go_wp2_with fail;rw[<-HK.out];go_meet;exact⟨by first|rfl|(congr 1;simpa using ht),by first|exact gb|(rw[gG (by first|trivial|rfl)];exact gb)⟩
   |false=>rw[hA]at hb;obtain rfl:=hb.out;refine(bB E s _ _ gs.rd hA).mono ?_;rintro e1 w1⟨rfl,ho⟩;clear hA;go_wp2_with fail;rw[<-HK.out];go_meet;exact⟨rfl,by rw[gB (by decide)];exact ho.moved⟩
  ·(have hk:¬ x.kind=18:=by assumption);(have hb:bb=false:=by rw[gh.out];simp[hk]);subst hb;go_meet;exact⟨rfl,by rw[gB (by decide)];exact aA.refl gs.rd⟩
 case rest=>
  obtain⟨rfl,gb⟩:=hcut;have gp:=g6.grown gb.gr;have gw:=g9.grown gb.gr;have N:=gs.trans gb;(have hz:w.heap.size+2<=wc.heap.size:=by have:=gb.gr.size;simp at this;omega);clear g6 g9 x0 x1 x2 x3 gb gs;generalize wc=w2 at *;obtain⟨x0,x1,x2,x3,_,_,_,_⟩:=ab gp;cases bb with
  | true=>
   replace N:aA E (adv s) w w2:=N;(have gd:x.kind=18/\x.text≠(⟨#[95]⟩:BA)/\aP E.c s ⟨#[58,61]⟩=true:=by have:=gh.out.symm;simpa using this);have HE:=hid (show(F.expr E.c (adv s)).bind (fun v s1=>.ok (.mk 26 x.text [v] p) s1)=res by rw[<-gj.out,ic,gG gd]);clear gd gh gj;cases hP:F.expr E.c (adv s)with
   |out=>exact absurd HE.out.symm (by rw[hP];exact hf.out)
   | ok n s3=>
    have HF:Hid (res=.ok (.mk 26 x.text [n] p) s3):=hid (by rw[<-HE.out,hP];rfl);have HC:=hid (fun W(hr:aU E W (adv s))=>hF.expr W _ hr (by rw[hP];exact nofun));rw[hP]at HC;clear HE hP;(have U:w.heap.size+1≠w.heap.size:=by omega);have g1:w2.drew.cell? ⟨w,1,none⟩=some (.string x.text):=x1;go_wp2_with fail;go_region_held3 (fun w'=>w'.cell? ⟨w,1,none⟩=some (.string x.text))
     (first|with_reducible exact y1|with_reducible exact z1|with_reducible exact g1|with_reducible exact(ab (J.alloc _)).2.1|(rw[gJ _ _ _ _ (by exact U),gJ _ _ _ _ (by exact U),gJ _ _ _ _ (by exact U),gJ _ _ _ _ (by exact U)];exact y1))
     (first
      |(go_at_call 32;refine(HC.out _ N.drew.rd).mono ?_;rintro e w7⟨⟨v,rfl,g2⟩,O⟩;obtain⟨A7,c7,rfl,gx⟩:=g2.toC;have J:=gp.drew.grown O.gr;have ge:=gw.drew.grown O.gr;obtain⟨z0,z1,z2,z3,_,_,_,_⟩:=ab J;have gt:=ge.lt;have g3:=J.lt)
      |(go_at_call 55;refine(aM _ _ _ _ _ ⟨_,_,_,rfl⟩).mono ?_;rintro e w8⟨rfl,D⟩;have g5:=(J.alloc _).below D (by simp;omega);have M:=(ge.alloc _).below D (by simp;omega);obtain⟨y0,y1,y2,y3,_,_,_,_⟩:=ab g5;obtain⟨d0,d1,d2,d3,e0,e1,e2,e3⟩:=ab M))
    (all_goals go_wp2_with fail);have hg:w2.heap.size<=w7.heap.size:=O.gr.size;have hn:w2.drew.heap.size=w2.heap.size:=rfl;have ga:=((N.drew.trans O).alloc _).step D;have hV:=af.make 1 rfl (ah.one gx) 26 x.text p D;refine mn HF.out hV ga M (by omega) (by omega) ?_ rfl (by rfl) rfl;rintro b(⟨hb,_⟩|rfl)<;>constructor<;>omega
  | false=>
   replace N:aA E s w w2:=N;(have gd:¬ (x.kind=18/\x.text≠(⟨#[95]⟩:BA)/\aP E.c s ⟨#[58,61]⟩=true):=by rintro⟨a,b,c⟩;have:=gh.out;simp[a,b,c]at this);have HE:=hid (show(if aP E.c s ⟨#[61]⟩then(F.expr E.c (adv s)).bind fun v s1=>.ok (.mk 27 ⟨#[]⟩ [x,v] p) s1
    else if aP E.c s ⟨#[43,43]⟩then .ok (.mk 28 ⟨#[43,43]⟩ [x] p) (adv s)
    else if aP E.c s ⟨#[45,45]⟩then .ok (.mk 28 ⟨#[45,45]⟩ [x] p) (adv s)
    else if x.kind=21 then .ok (.mk 29 ⟨#[]⟩ [x] p) s else .out)=res by rw[<-gj.out,ic,gB gd])
   have g0:=(hC.mono (Y:=fun b=>w0.heap.size<=b/\b<w.heap.size) (fun b hb gg=>⟨hb,gg⟩)).keep (w':=w2) (am.of_grown (X:=fun b=>w0.heap.size<=b/\b<w.heap.size) N.gr).block;clear gd gh gj;go_wp2_with fail;cases hA:aP E.c s ⟨#[61]⟩with
   | true=>
    have hi:=hid (show(F.expr E.c (adv s)).bind (fun v s1=>.ok (.mk 27 ⟨#[]⟩ [x,v] p) s1)=res by rw[<-HE.out];simp only[hA,kG]);clear HE;have HE:=hi;clear hi;refine(aZ E s _ _ N.rd hA).mono ?_;rintro e w4⟨rfl,I⟩;have gn:=gp.grown I.gr;have gi:=gw.grown I.gr;have gq:=N.trans I;have hq:=g0.keep (w':=w4) (am.of_grown (X:=fun b=>w0.heap.size<=b/\b<w.heap.size) I.gr).block;have hh:w2.heap.size<=w4.heap.size:=I.gr.size;clear hA I x0 x1 x2 x3 gp gw N g0;obtain⟨x0,x1,x2,x3,_,_,_,_⟩:=ab gn;cases hP:F.expr E.c (adv s)with
    |out=>exact absurd HE.out.symm (by rw[hP];exact hf.out)
    | ok n s3=>
     have HF:Hid (res=.ok (.mk 27 ⟨#[]⟩ [x,n] p) s3):=hid (by rw[<-HE.out,hP];rfl);have HC:=hid (fun W(hr:aU E W (adv s))=>hF.expr W _ hr (by rw[hP];exact nofun));rw[hP]at HC;clear HE hP;(have U:w.heap.size+1≠w.heap.size:=by omega);have hm:w4.drew.cell? ⟨w,0,none⟩=some (.int .i64 x.kind):=x0;have g1:w4.drew.cell? ⟨w,1,none⟩=some (.string x.text):=x1;have hl:w4.drew.cell? ⟨w,2,none⟩=some (.slice A x.kids.length cp):=x2;have hj:w4.drew.cell? ⟨w,3,none⟩=some (.int .i64 x.pos):=x3;go_wp2_with fail;go_region_held3 (fun w'=>w'.cell? ⟨w,0,none⟩=some (.int .i64 x.kind)/\w'.cell? ⟨w,1,none⟩=some (.string x.text)/\w'.cell? ⟨w,2,none⟩=some (.slice A x.kids.length cp)/\w'.cell? ⟨w,3,none⟩=some (.int .i64 x.pos))
      (refine⟨?_,?_,?_,?_⟩<;>first|with_reducible exact y0|with_reducible exact y1|with_reducible exact y2|with_reducible exact y3|with_reducible exact z0|with_reducible exact z1|with_reducible exact z2|with_reducible exact z3|with_reducible exact hm|with_reducible exact g1|with_reducible exact hl|with_reducible exact hj|with_reducible exact(ab (J.alloc _)).1|with_reducible exact(ab (J.alloc _)).2.1|with_reducible exact(ab (J.alloc _)).2.2.1|with_reducible exact(ab (J.alloc _)).2.2.2.1|(rw[gJ _ _ _ _ (by exact U),gJ _ _ _ _ (by exact U),gJ _ _ _ _ (by exact U),gJ _ _ _ _ (by exact U)];first|with_reducible exact y0|with_reducible exact y1|with_reducible exact y2|with_reducible exact y3))
      (first
       |(go_at_call 32;refine(HC.out _ gq.drew.rd).mono ?_;rintro e w7⟨⟨v,rfl,g2⟩,O⟩;obtain⟨A7,c7,rfl,gx⟩:=g2.toC;have J:=gn.drew.grown O.gr;have ge:=gi.drew.grown O.gr;obtain⟨z0,z1,z2,z3,_,_,_,_⟩:=ab J;have gt:=ge.lt;have g3:=J.lt)
       |(go_at_call 55;refine(aM _ _ _ _ _ ⟨_,_,_,rfl⟩).mono ?_;rintro e w8⟨rfl,D⟩;have g5:=(J.alloc _).below D (by simp;omega);have M:=(ge.alloc _).below D (by simp;omega);obtain⟨y0,y1,y2,y3,_,_,_,_⟩:=ab g5;obtain⟨d0,d1,d2,d3,e0,e1,e2,e3⟩:=ab M))
     (all_goals go_wp2_with fail);have hg:w4.heap.size<=w7.heap.size:=O.gr.size;have hn:w4.drew.heap.size=w4.heap.size:=rfl;have ga:=((gq.drew.trans O).alloc _).step D;have hV:=af.make 2 rfl (ah.cons (((hq.keep (w:=w4) (w':=w4.drew) (fun _ _ _=>rfl)).keep (w':=w7) (am.of_grown (X:=fun b=>w0.heap.size<=b/\b<w.heap.size) O.gr).block).mono (Y:=fun b=>w0.heap.size<=b/\b≠w.heap.size+1) (fun b hb _=>⟨hb.1,by omega⟩)) (ah.one (gx.mono (Y:=fun b=>w0.heap.size<=b/\b≠w.heap.size+1) (fun b hb _=>by constructor<;>omega)))) 27 ⟨#[]⟩ p D;refine mn HF.out hV ga M (by omega) (by omega) ?_ rfl (by rfl) rfl;rintro b(⟨hb,_⟩|rfl)<;>constructor<;>omega
   | false=>
    refine(bB E s _ _ N.rd hA).mono ?_;rintro e w3⟨rfl,gm⟩;have gz:=gp.below gm.bel (by omega);have g8:=gw.below gm.bel (by omega);have gv:=N.trans gm.moved;have he:=g0.keep (w':=w3) (fun b _ gg=>gm.bel.block b gg);have hy:w2.heap.size<=w3.heap.size:=gm.bel.size;clear gp gw N g0 gm x0 x1 x2 x3;obtain⟨x0,x1,x2,x3,_,_,_,_⟩:=ab gz;go_wp2_with fail;cases hB:aP E.c s ⟨#[43,43]⟩with
    |true=>have HF:=hid (show res=.ok (.mk 28 ⟨#[43,43]⟩ [x] p) (adv s)by rw[<-HE.out];simp[hA,hB]);refine(aZ E s _ _ gv.rd hB).mono ?_;rintro e w4⟨rfl,I⟩;have gn:=gz.grown I.gr;have gi:=g8.grown I.gr;have gq:=gv.trans I;have ha:=he.keep (w':=w4) (am.of_grown (X:=fun b=>w0.heap.size<=b/\b<w.heap.size) I.gr).block;have hh:w3.heap.size<=w4.heap.size:=I.gr.size;clear HE hA hB I x0 x1 x2 x3;obtain⟨x0,x1,x2,x3,_,_,_,_⟩:=ab gn;have g4:=gi.lt;go_wp2_with fail;refine(aM _ _ _ _ _ ⟨_,_,_,rfl⟩).mono ?_;rintro e w8⟨rfl,D⟩;have hV:=af.make 1 rfl (ah.one ha) 28 ⟨#[43,43]⟩ p D;have M:=(gi.alloc _).below D (by simp;omega);have ga:=(gq.alloc _).step D;obtain⟨d0,d1,d2,d3,e0,e1,e2,e3⟩:=ab M;clear D;go_wp2_with fail;refine mn HF.out hV ga M (by omega) (by omega) ?_ rfl (by rfl) rfl;rintro b(⟨hb,_⟩|rfl)<;>constructor<;>omega
    | false=>
     refine(bB E s _ _ gv.rd hB).mono ?_;rintro e w5⟨rfl,gl⟩;have gy:=gz.below gl.bel (by omega);have g7:=g8.below gl.bel (by omega);have gu:=gv.trans gl.moved;have hc:=he.keep (w':=w5) (fun b _ gg=>gl.bel.block b gg);have hw:w3.heap.size<=w5.heap.size:=gl.bel.size;clear gz g8 gv he gl x0 x1 x2 x3;obtain⟨x0,x1,x2,x3,_,_,_,_⟩:=ab gy;go_wp2_with fail;cases hD:aP E.c s ⟨#[45,45]⟩with
     |true=>have HF:=hid (show res=.ok (.mk 28 ⟨#[45,45]⟩ [x] p) (adv s)by rw[<-HE.out];simp[hA,hB,hD]);refine(aZ E s _ _ gu.rd hD).mono ?_;rintro e w4⟨rfl,I⟩;have gn:=gy.grown I.gr;have gi:=g7.grown I.gr;have gq:=gu.trans I;have ha:=hc.keep (w':=w4) (am.of_grown (X:=fun b=>w0.heap.size<=b/\b<w.heap.size) I.gr).block;have hh:w5.heap.size<=w4.heap.size:=I.gr.size;clear HE hA hB hD I x0 x1 x2 x3;obtain⟨x0,x1,x2,x3,_,_,_,_⟩:=ab gn;have g4:=gi.lt;go_wp2_with fail;refine(aM _ _ _ _ _ ⟨_,_,_,rfl⟩).mono ?_;rintro e w8⟨rfl,D⟩;have hV:=af.make 1 rfl (ah.one ha) 28 ⟨#[45,45]⟩ p D;have M:=(gi.alloc _).below D (by simp;omega);have ga:=(gq.alloc _).step D;obtain⟨d0,d1,d2,d3,e0,e1,e2,e3⟩:=ab M;clear D;go_wp2_with fail;refine mn HF.out hV ga M (by omega) (by omega) ?_ rfl (by rfl) rfl;rintro b(⟨hb,_⟩|rfl)<;>constructor<;>omega
     |false=>
      refine(bB E s _ _ gu.rd hD).mono ?_;rintro e w7⟨rfl,gk⟩;have J:=gy.below gk.bel (by omega);have ge:=g7.below gk.bel (by omega);have hp:=gu.trans gk.moved;have gx:=hc.keep (w':=w7) (fun b _ gg=>gk.bel.block b gg);have hg:w5.heap.size<=w7.heap.size:=gk.bel.size;clear gy g7 gu hc gk x0 x1 x2 x3;have gt:=ge.lt;obtain⟨x0,x1,x2,x3,_,_,_,_⟩:=ab J;have HT:=hid (show(if x.kind=21 then .ok (.mk 29 ⟨#[]⟩ [x] p) s else .out)=res by rw[<-HE.out];simp[hA,hB,hD]);clear HE hA hB hD;go_wp2_with fail
      ·(have hk:(x.kind != 21)=true:=by assumption);have HF:Hid (res=.out):=hid (by rw[<-HT.out,gB (by simpa using hk)]);exact absurd (HF.out) hf.out
      ·(have hk:(x.kind != 21)=false:=by assumption);have HF:Hid (res=.ok (.mk 29 ⟨#[]⟩ [x] p) s):=hid (by rw[<-HT.out,gG (by simpa using hk)]);refine(aM _ _ _ _ _ ⟨_,_,_,rfl⟩).mono ?_;rintro e w8⟨rfl,D⟩;have hV:=af.make 1 rfl (ah.one gx) 29 ⟨#[]⟩ p D;have M:=(ge.alloc _).below D (by simp;omega);have ga:=(hp.alloc _).step D;obtain⟨d0,d1,d2,d3,e0,e1,e2,e3⟩:=ab M;clear D;go_wp2_with fail;refine mn HF.out hV ga M (by omega) (by omega) ?_ rfl (by rfl) rfl;rintro b(⟨hb,_⟩|rfl)<;>constructor<;>omega
theorem Ei(E:cw)(F:fK)(hF:nE E F)(hR:uV E F):d9 E (fD F) 227:=by
 intro w s h hno;generalize I:fD F E.c s=res at *;have gh:=hid I;have gn:=hid hno;have ge:=h.lt;clear I hno;(go_enter func227,ntmps227);go_wp2_with fail;refine(bL E s _ (h.alloc _)).mono ?_;unfold fY;rintro e w1⟨rfl,U⟩;have gi:=((cJ.refl h).alloc _).step U;have gx:=(aq.new w 24 bJ).below U (by simp);have gy:=U.size;simp at gy;clear U;have HE:=hid (show(F.expr E.c s).bind (fun x s1=>if aP E.c s1 ⟨#[123]⟩then .ok x s1 else ic F (aD E.c s) x E.c s1)=res from gh.out);clear gh;go_wp2_with fail;cases hP:F.expr E.c s with
 |out=>exact absurd HE.out.symm (by rw[hP];exact gn.out)
 | ok n s1=>
  have gp:=hid (show(if aP E.c s1 ⟨#[123]⟩then .ok n s1 else ic F (aD E.c s) n E.c s1)=res by rw[<-HE.out,hP];rfl);refine(hF.expr w1 s gi.rd (by rw[hP];exact nofun)).mono ?_;rw[hP];rintro e w3⟨⟨v,rfl,hv⟩,N⟩;obtain⟨A3,c3,rfl,g0⟩:=hv.toC;have gw:=gx.grown N.gr;have gu:=gi.moved.trans N;have g3:=N.gr.size;have gj:=aq.new w3 24 (nv n A3 c3);have J:=gu.alloc (.cells (nv n A3 c3) 24);have gm:=gw.alloc (.cells (nv n A3 c3) 24);have M:=(aj w3 (nv n A3 c3)).1;have gl:=hv.keep (w':=w3.alloc (.cells (nv n A3 c3) 24)) fun b _ hlt=>M.block b hlt;have gg:=N.gr.trans (di (some E.R) M);have g2:=M.size;(have O:w3.heap.size<(w3.alloc (.cells (nv n A3 c3) 24)).heap.size:=by simp);clear hP HE hv g0 gu gw gx N M;go_wp2_with fail;cases hA:aP E.c s1 ⟨#[123]⟩with
  |true=>have HF:Hid (res=.ok n s1):=hid (by rw[<-gp.out,gG hA]);refine(bY E s1 ⟨#[123]⟩ _ J.rd).mono ?_;rw[hA];rintro e w5⟨rfl,D⟩;have gd:=gm.bl D;have ga:=gj.below D O;have gb:=(aA.trans J ((cJ.refl J.rd).step D).moved);have gk:=gl.keep (w':=w5) fun b _ hlt=>D.block b hlt;obtain⟨x0,x1,x2,x3,-,-,-,-⟩:=ab ga;obtain⟨d0,d1,d2,d3,e0,e1,e2,e3⟩:=ab gd;go_wp2_with fail;refine av HF.out gk gb gd (gC _) ge ?_ rfl (by rfl) rfl;intro b hb;constructor<;>omega
  |false=>
   have HF:Hid (ic F (aD E.c s) n E.c s1=res):=hid (by rw[<-gp.out,gB (by rw[hA];decide)]);refine(bY E s1 ⟨#[123]⟩ _ J.rd).mono ?_;rw[hA];rintro e w5⟨rfl,D⟩;have gd:=gm.bl D;have ga:=gj.below D O;have gb:=(aA.trans J ((cJ.refl J.rd).step D).moved);have gk:=gl.keep (w':=w5) fun b _ hlt=>D.block b hlt;have gt:=gg.trans (di (some E.R) D);have g1:=D.size;obtain⟨x0,x1,x2,x3,-,-,-,-⟩:=ab ga;clear hA gp D ga gj gm J gl gg;go_wp2_with fail;refine(hR w1 w5 s1 _ n _ gi.rd.lt gt gb.rd gk (by rw[show ic F (az E.c s.at_).pos n E.c s1=res from HF.out];exact gn.out)).mono ?_;rw[show ic F (az E.c s.at_).pos n E.c s1=res from HF.out];unfold uU;cases I:res with
   |out=>exact absurd I gn.out
   |ok n5 s5=>rintro e w6⟨⟨v6,rfl,gq⟩,gs⟩;obtain⟨A6,c6,rfl,g4⟩:=gq.toC;have gv:=gd.grown gs.gr;have gz:=gb.trans gs;obtain⟨d0,d1,d2,d3,e0,e1,e2,e3⟩:=ab gv;go_wp2_with fail;refine av (by first|rfl|exact I) gq gz gv (gC _) ge ?_ rfl (by rfl) rfl;intro b hb;constructor<;>omega
theorem uX(E:cw)(F:fK)(hF:nE E F):d9 E (cX F) 176:=by
 intro w s h hno;generalize D:cX F E.c s=res at *;have J:=hid D;have ga:=hid hno;have I:=h.lt;have O:aA E { s with part:=s.at_ } w ((w.setCell ⟨E.R,4,none⟩ (.int .i64 (s.at_:Int))).alloc (.cells bJ 24)):=((aA.refl h).setPart (s.at_:Int)).alloc _;have gd:aq ((w.setCell ⟨E.R,4,none⟩ (.int .i64 (s.at_:Int))).alloc (.cells bJ 24)) w.heap.size 24 bJ:=aq.new_at (by simp[World.setCell]) _ _;(have gg:w.heap.size+1<=((w.setCell ⟨E.R,4,none⟩ (.int .i64 (s.at_:Int))).alloc (.cells bJ 24)).heap.size:=by simp[World.setCell]);obtain⟨c0,c1,c2,c3,c4,cf⟩:=h.cells;have ge:=cf 4;have gh:=qi I;clear D hno cf;have HE:Hid (F.expr E.c { s with part:=s.at_ }=res):=hid J.out;clear J;(go_enter func176,ntmps176);go_wp2_with fail;refine(hF.expr _ { s with part:=s.at_ } O.rd (by rw[HE.out];exact ga.out)).mono ?_;rw[HE.out];cases D:res with
 |out=>exact absurd D ga.out
 |ok n5 s5=>rintro e w5⟨⟨v5,rfl,M⟩,N⟩;obtain⟨A5,c5,rfl,gi⟩:=M.toC;have U:=gd.grown N.gr;have gb:=O.trans N;clear c0 c1 c2 c3 c4 ge;obtain⟨d0,d1,d2,d3,e0,e1,e2,e3⟩:=ab U;go_wp2_with fail;refine av (by first|rfl|exact D) M gb U (gC _) I ?_ rfl (by rfl) rfl;intro b hb;constructor<;>omega
theorem L6(E:cw)(F:fK)(hF:nE E F)(hR:uV E F):d9 E (nz F) 228:=by
 intro w s h hno;generalize hres:nz F E.c s=res at *;have N:=hid hres;have ge:=hid hno;have J:=h.lt;have gh:=h.most;have gd:aq (w.alloc (.cells bJ 24)) w.heap.size 24 bJ:=aq.new w _ _;have O:aA E s w (w.alloc (.cells bJ 24)):=(aA.refl h).alloc _;obtain⟨c0,c1,c2,c3,c4,cf⟩:=h.cells;have gg:=qi J;clear hres hno cf;have HE:=hid (show(iC F E.c s).bind (fun x s1=>if x.kind=26 then .out else .ok x s1)=res from N.out);clear N;(have gp:w.heap.size+1<=(w.alloc (.cells bJ 24)).heap.size:=by simp);(go_enter func228,ntmps228);go_wp2_with fail;cases hP:iC F E.c s with
 |out=>exact absurd HE.out.symm (by rw[hP];exact ge.out)
 |ok n s1=>
  have U:=hid (show(if n.kind=26 then .out else .ok n s1)=res by rw[<-HE.out,hP];rfl);refine(uW E F hF hR _ s O.rd (by rw[hP];exact nofun)).mono ?_;rw[hP];rintro e w3⟨⟨v,rfl,hv⟩,I⟩;obtain⟨A3,D,rfl,gm⟩:=hv.toC;have gb:=gd.grown I.gr;have gl:=O.trans I;have gn:=I.gr.size;have gi:=aq.new w3 24 (nv n A3 D);have gk:=gl.alloc (.cells (nv n A3 D) 24);have ga:=gb.alloc (.cells (nv n A3 D) 24);have M:=(aj w3 (nv n A3 D)).1;have gj:=hv.keep (w':=w3.alloc (.cells (nv n A3 D) 24)) fun b _ hlt=>M.block b hlt;clear hP HE hv gm O gb gd I M c0 c1 c2 c3 c4 gg;obtain⟨x0,x1,x2,x3,-,-,-,-⟩:=ab gi;obtain⟨d0,d1,d2,d3,e0,e1,e2,e3⟩:=ab ga;by_cases hk:n.kind=26
  ·have HF:Hid (res=.out):=hid (by rw[<-U.out,gG hk]);exact absurd (HF.out) ge.out
  ·have HF:Hid (res=.ok n s1):=hid (by rw[<-U.out,gB hk]);(have gq:(n.kind==26)=false:=by simp[hk]);clear hk U;go_wp2_with fail;refine av HF.out gj gk ga (gC _) J ?_ rfl (by rfl) rfl;intro b hb;constructor<;>omega
end
section
open Go.RowKit Go.Lib Go.Proofs
abbrev aF(w:World)(v:Value)(n:Nd):Prop:=af (fun _=>True) w v n
theorem af.wide{X:Nat->Prop}{w:World}{v:Value}{n:Nd}(h:af X w v n):aF w v n:=h.mono fun _ _ _=>trivial
theorem af.below{X:Nat->Prop}{w w':World}{v:Value}{n:Nd}(h:af X w v n)(hb:Below w w w'):af X w' v n:=h.keep fun b _ hlt=>hb.block b hlt
theorem cV.below{X:Nat->Prop}{w w':World}{v:Value}{l:List Nd}(h:cV X w v l)(hb:Below w w w'):cV X w' v l:=by obtain⟨A,cap,xs,e,J,I,D⟩:=h;exact⟨A,cap,xs,e,J,I.keep fun b _ hlt=>hb.block b hlt,D.keep fun b _ hlt=>hb.block b hlt⟩
abbrev lA(w:World)(v:Value)(l:List Nd):Prop:=cV (fun _=>True) w v l
theorem fZ(a b:Int):(a==b)=decide (a=b):=by rw[kT];simp
def dw(w:World):Prop:=∃m:Int,w.cell? ⟨0,0,none⟩=some (.int .i64 m)
theorem dw.below{w w':World}(h:dw w)(hb:Below w w w'):dw w':=by obtain⟨m,h⟩:=h;exact⟨m,(hb.cell (jD w _ h)).trans h⟩
structure Fv where
 k:FuncId
 cap:Array Value
def Fv.val(f:Fv):Value:=.func (.func f.k) #[] f.cap
structure ob(d:Nat)(P:Nd->Bool)(f:Fv)(w0:World):Prop where
 enter:∀a w,(callFunc f.k a).run prog w=.ok (.enter f.k a) w
 out:∀(w:World)(v:Value)(n:Nd),Below w0 w0 w->aF w v n->df d n->Calls prog f.k (#[v]++f.cap) w fun e w'=>e=.returned (.bool (P n))/\Below w w w'
theorem ob.below{d:Nat}{P:Nd->Bool}{f:Fv}{w0 w1:World}(h:ob d P f w0)(hb:Below w0 w0 w1):ob d P f w1:=
 ⟨h.enter,fun w v n hw=>h.out w v n (au hb hw)⟩
structure Cb(P:ByteArray->Bool)(f:Fv)(w0:World):Prop where
 enter:∀a w,(callFunc f.k a).run prog w=.ok (.enter f.k a) w
 out:∀(w:World)(s:ByteArray),Below w0 w0 w->s.size<=1000000000->Calls prog f.k (#[.string s]++f.cap) w fun e w'=>e=.returned (.bool (P s))/\Below w w w'
theorem Cb.below{P:ByteArray->Bool}{f:Fv}{w0 w1:World}(h:Cb P f w0)(hb:Below w0 w0 w1):Cb P f w1:=
 ⟨h.enter,fun w s hw=>h.out w s (au hb hw)⟩
def iy(d:Nat)(P:Nd->Bool)(f:FuncId):Prop:=
 ∀(w:World)(v:Value)(n:Nd),dw w->aF w v n->df d n->Calls prog f #[v] w fun e w'=>e=.returned (.bool (P n))/\Below w w w'
theorem iy.so{d:Nat}{P:Nd->Bool}{f:FuncId}(h:iy d P f)(D:∀a w,(callFunc f a).run prog w=.ok (.enter f a) w)(w0:World)(I:dw w0):ob d P ⟨f,#[]⟩ w0:=
 ⟨D,fun w v n hb hv hd=>h w v n (I.below hb) hv hd⟩
theorem iy.le{d d':Nat}{P:Nd->Bool}{f:FuncId}(h:iy d P f)(hd:∀n,df d' n->df d n):iy d' P f:=fun w v n hT hv hn=>h w v n hT hv (hd n hn)
def lp(w:World)(K o:Nat)(a b c d:Value):World:=(((w.setCell ⟨K,o,none⟩ a).setCell ⟨K,o+1,none⟩ b).setCell ⟨K,o+2,none⟩ c).setCell ⟨K,o+3,none⟩ d
section
variable {E:cw} {s:St} {w wk:World} {K o:Nat} {a b c d:Value}
theorem Ej:(lp wk K o a b c d).heap.size=wk.heap.size:=by simp[lp]
theorem mV(h:aA E s w wk)(D:w.heap.size<=K)(I:E.R<K)(a b c d:Value):aA E s w (lp wk K o a b c d):=
 (((h.own (p:=⟨K,o,none⟩) D I a).own (p:=⟨K,o+1,none⟩) D I b).own (p:=⟨K,o+2,none⟩) D I c).own (p:=⟨K,o+3,none⟩) D I d
theorem fP{X:Nat->Prop}(D:∀b,X b->b≠K):am X wk (lp wk K o a b c d):=
 ((((am.refl X wk).setCell (p:=⟨K,o,none⟩) (fun h=>D K h rfl) a).setCell (p:=⟨K,o+1,none⟩) (fun h=>D K h rfl) b).setCell (p:=⟨K,o+2,none⟩) (fun h=>D K h rfl) c).setCell (p:=⟨K,o+3,none⟩) (fun h=>D K h rfl) d
theorem pK{g:Nat}{t:TypeId}{cs:Array Value}(h:aq wk g t cs)(D:g≠K):aq (lp wk K o a b c d) g t cs:=
 (((h.far (p:=⟨K,o,none⟩) D a).far (p:=⟨K,o+1,none⟩) D b).far (p:=⟨K,o+2,none⟩) D c).far (p:=⟨K,o+3,none⟩) D d
theorem lB{t:TypeId}{cs:Array Value}(h:aq wk K t cs):aq (lp wk K o a b c d) K t ((((cs.setIfInBounds o a).setIfInBounds (o+1) b).setIfInBounds (o+2) c).setIfInBounds (o+3) d):=
 (((h.set_ o a).set_ (o+1) b).set_ (o+2) c).set_ (o+3) d
end
end
end Go.Proofs.YteialcjaiocjdaaGreatDoor
