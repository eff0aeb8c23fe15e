/-
  Parts of the proof: Rif Rstmt Rclos. By an AI agent.
-/
import Derived.Test.YtiebcdeafofgdaaGreatDoorJ06
import Derived.Test.YtiebcdeafofgdaaGreatDoorJ23
open Go.Proofs.Tryz
set_option maxRecDepth 100000
set_option maxHeartbeats 8000000
namespace Go.Proofs.YtiebcdeafofgdaaGreatDoor
section
open Go.RowKit Go.Lib Go.Proofs
attribute [local go_sem ↓] Go.wp_at_zero Go.wp_at_succ
attribute [local go_sem] aV aW aX bv bw bz bA
theorem Ro{w:World}{g:Nat}{t:TypeId}{a b c d a' b' c' d' a'' b'' c'' d'':Value}(h:an w g t #[a,b,c,d,a',b',c',d',a'',b'',c'',d'']):
  w.cell? ⟨g,8,none⟩=some a''/\w.cell? ⟨g,9,none⟩=some b''/\w.cell? ⟨g,10,none⟩=some c''/\w.cell? ⟨g,11,none⟩=some d'':=by have c0:=h.cell 8;have c1:=h.cell 9;have c2:=h.cell 10;have c3:=h.cell 11;simp at c0 c1 c2 c3;exact⟨c0,c1,c2,c3⟩
theorem Lo(E:cy)(F:iE)(hF:pw E F):eC E (IB F) 181:=by
 intro w s h hno;generalize hres:IB F E.c s=res at *;have gw:=hid hres;have gx:=hid hno;have gs:=h.lt;clear hres hno;(go_enter func181,ntmps181);go_wp2_with fail;refine(b8 E s _ (h.alloc _)).mono ?_;unfold iI;rintro e w1⟨rfl,g8⟩;have g6:=((cN.refl h).alloc _).step g8;have hm:=(an.new w 24 bP).below g8 (by simp);have ja:=hm.lt;clear g8;go_wp2_with fail;cases hA:aS E.c s ⟨#[105,102]⟩with
 |false=>exact absurd (show res=.out by rw[<-gw.out,IB,ci];simp[hA]) gx.out
 | true=>
  have HE:=hid (show(db F.expr E.c (adv s)).bind (fun x s2=>(bC F E.c s2).bind fun b s3=>
    if aS E.c s3 ⟨#[101,108,115,101]⟩then
     if aS E.c (adv s3) ⟨#[105,102]⟩then(F.ifS E.c (adv s3)).bind fun o s4=>.ok (.mk 30 ⟨#[]⟩ [x,b,o] (aM E.c s)) s4
     else(bC F E.c (adv s3)).bind fun o s4=>.ok (.mk 30 ⟨#[]⟩ [x,b,o] (aM E.c s)) s4
    else .ok (.mk 30 ⟨#[]⟩ [x,b,bX] (aM E.c s)) s3)=res by rw[<-gw.out,IB,ci];simp only[hA,kW,cC.bind_ok])
  refine(dU E s _ _ g6.rd hA).mono ?_;rintro e w2⟨rfl,gz⟩;have h0:=hm.grown gz.gr;have hf:=g6.moved.trans gz;have jg:=gz.gr.size;clear gw hA hm g6 gz;generalize hpp:aM E.c s=pp at *;rw[show(ay E.c s.at_).pos=pp from hpp];clear hpp;(have hq:∀a w,(callFunc 41 a).run prog w=.ok (.enter 41 a) w:=fun a w=>by kernel_rfl);have h1:Hid (∀w0,fZ E 41 (#[.pointer (some ⟨E.R,0,none⟩)] ++ #[]) F.expr w0):=hid (fun w0=>hF.expr.part w0);go_wp2_with fail;cases hP:db F.expr E.c (adv s)with
  |out=>exact absurd HE.out.symm (by rw[hP];exact gx.out)
  | ok n1 s2=>
   have hn:=hid (show(bC F E.c s2).bind (fun b s3=>
    if aS E.c s3 ⟨#[101,108,115,101]⟩then
     if aS E.c (adv s3) ⟨#[105,102]⟩then(F.ifS E.c (adv s3)).bind fun o s4=>.ok (.mk 30 ⟨#[]⟩ [n1,b,o] pp) s4
     else(bC F E.c (adv s3)).bind fun o s4=>.ok (.mk 30 ⟨#[]⟩ [n1,b,o] pp) s4
    else .ok (.mk 30 ⟨#[]⟩ [n1,b,bX] pp) s3)=res by rw[<-HE.out,hP];rfl)
   refine(mg E _ _ _ F.expr (adv s) _ hf.rd hq (h1.out _) (by rw[hP];exact nofun)).mono ?_;rw[hP];rintro e w3⟨⟨v,rfl,hv⟩,gy⟩;obtain⟨A3,c3,rfl,D⟩:=hv.toC;have D:=D.mono (Y:=fun b=>w.heap.size+1<=b/\b<w3.heap.size) (fun b hb M=>⟨by omega,M⟩);have hz:=h0.grown gy.gr;have he:=hf.trans gy;have jf:=gy.gr.size;clear hP HE hf h0 gy hv hq h1;go_wp2_with fail;cases hB:bC F E.c s2 with
   |out=>exact absurd hn.out.symm (by rw[hB];exact gx.out)
   | ok n2 s3=>
    have g4:=hid (show(if aS E.c s3 ⟨#[101,108,115,101]⟩then
      if aS E.c (adv s3) ⟨#[105,102]⟩then(F.ifS E.c (adv s3)).bind fun o s4=>.ok (.mk 30 ⟨#[]⟩ [n1,n2,o] pp) s4
      else(bC F E.c (adv s3)).bind fun o s4=>.ok (.mk 30 ⟨#[]⟩ [n1,n2,o] pp) s4
     else .ok (.mk 30 ⟨#[]⟩ [n1,n2,bX] pp) s3)=res by rw[<-hn.out,hB];rfl)
    refine(iA E F hF _ s2 he.rd (by rw[hB];exact nofun)).mono ?_;rw[hB];rintro e w4⟨⟨v,rfl,hv⟩,gq⟩;obtain⟨A4,c4,rfl,I⟩:=hv.toC;have je:=gq.gr.size;have I:=I.mono (Y:=fun b=>w.heap.size+1<=b/\b<w4.heap.size) (fun b hb M=>⟨by omega,M⟩);have D:=(D.keep (w':=w4) (ar.of_grown (X:=fun b=>w.heap.size+1<=b/\b<w3.heap.size) gq.gr).block).mono (Y:=fun b=>w.heap.size+1<=b/\b<w4.heap.size) (fun b hb _=>⟨hb.1,by omega⟩);have hl:=hz.grown gq.gr;have hu:=he.trans gq;clear hB hn he hz gq hv;go_wp2_with fail;refine(aQ _ _ _ _ _ ⟨_,_,_,rfl⟩).mono ?_;rintro e w5⟨rfl,gl⟩;have hw:=(an.new w4 24 #[.int .i64 n1.kind,.string n1.text,.slice A3 n1.kids.length c3,.int .i64 n1.pos,.int .i64 n2.kind,.string n2.text,.slice A4 n2.kids.length c4,.int .i64 n2.pos,.int .i64 0,.string ⟨#[]⟩,.slice none 0 0,.int .i64 0]).below gl (by simp);have hy:=(hl.alloc _).below gl (by have:=hl.lt;simp;omega);have ht:=(hu.alloc _).step gl;(have jd:w4.heap.size+1<=w5.heap.size:=by have:=gl.size;simp at this;omega);have g7:∀b,(w.heap.size+1<=b/\b<w4.heap.size)->b<w4.heap.size->w5.heap[b]? = w4.heap[b]? :=fun b _ M=>(gl.block b (by simp;omega)).trans (jF w4 _ b M);have D:=D.keep (w':=w5) g7;have I:=I.keep (w':=w5) g7;clear g7 gl hl hu;go_wp2_with fail;have g0:=an.new w5 24 #[.int .i64 30,.string ⟨#[]⟩,.slice (some ⟨w4,0,none⟩) 3 3,.int .i64 pp];have g1:=hw.alloc (.cells #[.int .i64 30,.string ⟨#[]⟩,.slice (some ⟨w4,0,none⟩) 3 3,.int .i64 pp] 24);have g2:=hy.alloc (.cells #[.int .i64 30,.string ⟨#[]⟩,.slice (some ⟨w4,0,none⟩) 3 3,.int .i64 pp] 24);have gm:=ht.alloc (.cells #[.int .i64 30,.string ⟨#[]⟩,.slice (some ⟨w4,0,none⟩) 3 3,.int .i64 pp] 24);have D:=D.keep (w':=w5.alloc (.cells #[.int .i64 30,.string ⟨#[]⟩,.slice (some ⟨w4,0,none⟩) 3 3,.int .i64 pp] 24)) (fun b _ M=>jF w5 _ b M);have I:=I.keep (w':=w5.alloc (.cells #[.int .i64 30,.string ⟨#[]⟩,.slice (some ⟨w4,0,none⟩) 3 3,.int .i64 pp] 24)) (fun b _ M=>jF w5 _ b M);(have jc:w5.heap.size+1<=(w5.alloc (.cells #[.int .i64 30,.string ⟨#[]⟩,.slice (some ⟨w4,0,none⟩) 3 3,.int .i64 pp] 24)).heap.size:=by simp);clear hw hy ht;generalize hK:w4.heap.size=K at *;generalize hL:w5.heap.size=L at *;generalize w5.alloc (.cells #[.int .i64 30,.string ⟨#[]⟩,.slice (some ⟨K,0,none⟩) 3 3,.int .i64 pp] 24)=w6 at *;clear hK hL;(have g9:L≠E.R:=by omega);(have ha:K≠E.R:=by omega);(have gd:K≠L:=by omega);(have jh:K≠w.heap.size:=by omega);(have ji:L≠w.heap.size:=by omega);cases hI:aS E.c s3 ⟨#[101,108,115,101]⟩with
    |false=>have HF:Hid (res=.ok (.mk 30 ⟨#[]⟩ [n1,n2,bX] pp) s3):=hid (by rw[<-g4.out,d5 (by rw[hI];decide)]);refine(cc E s3 _ _ gm.rd hI).mono ?_;rintro e w7⟨rfl,ge⟩;have gn:=g0.bl ge.bel;have gp:=g1.bl ge.bel;have gi:=g2.bl ge.bel;have gb:=gm.trans ge.moved;have D:=D.keep (w':=w7) (fun b _ M=>ge.bel.block b M);have I:=I.keep (w':=w7) (fun b _ M=>ge.bel.block b M);clear g4 hI g0 g1 g2 gm ge;obtain⟨x0,x1,x2,x3,_,_,_,_⟩:=ab gn;obtain⟨d0,d1,d2,d3,e0,e1,e2,e3⟩:=ab gi;go_wp2_with fail;have hV:=af.of_block (X:=fun b=>w.heap.size+1<=b) (k:=3) rfl gp (by show w.heap.size+1<=K;omega) (ag.cons (D.mono fun b hb _=>hb.1) (ag.cons (I.mono fun b hb _=>hb.1) (ag.one eP))) 30 ⟨#[]⟩ pp;refine aC HF.out hV gb gi (gA _) gs ?_ rfl (by rfl) rfl;intro b hb;constructor<;>omega
    | true=>
     have g3:=hid (show(if aS E.c (adv s3) ⟨#[105,102]⟩then(F.ifS E.c (adv s3)).bind fun o s4=>.ok (.mk 30 ⟨#[]⟩ [n1,n2,o] pp) s4
      else(bC F E.c (adv s3)).bind fun o s4=>.ok (.mk 30 ⟨#[]⟩ [n1,n2,o] pp) s4)=res by rw[<-g4.out,gF hI])
     refine(bB E s3 _ _ gm.rd hI).mono ?_;rintro e w7⟨rfl,gg⟩;have gn:=g0.grown gg.gr (fun e=>g9 (by injection e));have gp:=g1.grown gg.gr (fun e=>ha (by injection e));have gi:=g2.grown gg.gr;have gb:=gm.trans gg;have jb:=gg.gr.size;have ga:=(ar.of_grown (X:=fun b=>w.heap.size+1<=b/\b<K) gg.gr).block;have D:=D.keep (w':=w7) ga;have I:=I.keep (w':=w7) ga;clear g4 hI g0 g1 g2 gm gg ga;go_wp2_with fail;cases hJ:aS E.c (adv s3) ⟨#[105,102]⟩with
     | true=>
      have gk:=hid (show(F.ifS E.c (adv s3)).bind (fun o s4=>.ok (.mk 30 ⟨#[]⟩ [n1,n2,o] pp) s4)=res by rw[<-g3.out,gF hJ]);refine(bU E (adv s3) ⟨#[105,102]⟩ _ gb.rd).mono ?_;rw[hJ];rintro e w8⟨rfl,N⟩;have gu:=gn.bl N;have hj:=gp.bl N;have hk:=gi.bl N;have gt:=gb.step N;have h8:=N.size;have D:=D.keep (w':=w8) (fun b _ M=>N.block b M);have I:=I.keep (w':=w8) (fun b _ M=>N.block b M);clear g3 hJ gn gp gi gb N;obtain⟨x0,x1,x2,x3,_,_,_,_⟩:=ab gu;cases hQ:F.ifS E.c (adv s3)with
      |out=>exact absurd gk.out.symm (by rw[hQ];exact gx.out)
      | ok J s4=>
       have HF:Hid (res=.ok (.mk 30 ⟨#[]⟩ [n1,n2,J] pp) s4):=hid (by rw[<-gk.out,hQ];rfl);have HC:=hid (fun W(hr:aU E W (adv s3))=>hF.ifS W (adv s3) hr (by rw[hQ];exact nofun));rw[hQ]at HC;clear gk hQ;go_wp2_with fail;go_region_held3 (fun w'=>w'.cell? ⟨L,2,none⟩=some (.slice (some ⟨K,0,none⟩) 3 3))
        (first|with_reducible exact z2|exact x2|(rw[gH _ _ _ _ (by exact gd),gH _ _ _ _ (by exact gd),gH _ _ _ _ (by exact gd),gH _ _ _ _ (by exact gd)];exact z2))
        ((go_at_call 181;refine(HC.out _ gt.drew.rd).mono ?_;rintro e w9⟨⟨v,rfl,g5⟩,O⟩;obtain⟨A9,c9,rfl,gj⟩:=g5.toC;have hg:=gu.drew.grown O.gr (fun e=>g9 (by injection e));have U:=hj.drew.grown O.gr (fun e=>ha (by injection e));have gv:=hk.drew.grown O.gr;obtain⟨z0,z1,z2,z3,_,_,_,_⟩:=ab hg;obtain⟨k8,k9,h5,h4⟩:=Ro U;have h3:=U.frozen 8;have h2:=U.frozen 9;have hp:=U.frozen 10;have ho:=U.frozen 11))
       have hc:=gt.drew.trans O;have h7:w8.heap.size<=w9.heap.size:=O.gr.size;have ga:=(ar.of_grown (w:=w8.drew) (X:=fun b=>w.heap.size+1<=b/\b<K) O.gr).block;have D:=(D.keep (w:=w8) (w':=w8.drew) (fun _ _ _=>rfl)).keep (w':=w9) ga;have I:=(I.keep (w:=w8) (w':=w8.drew) (fun _ _ _=>rfl)).keep (w':=w9) ga;obtain⟨d0,d1,d2,d3,e0,e1,e2,e3⟩:=ab gv;go_wp2_with fail;have hi:=lh (o:=8) (a:=.int .i64 J.kind) (b:=.string J.text) (c:=.slice A9 J.kids.length c9) (d:=.int .i64 J.pos) U;(have hh:an (iO w9 K 8 (.int .i64 J.kind) (.string J.text) (.slice A9 J.kids.length c9) (.int .i64 J.pos)) K 24 #[n1.kind,n1.text,.slice A3 n1.kids.length c3,n1.pos,n2.kind,n2.text,.slice A4 n2.kids.length c4,n2.pos,J.kind,J.text,.slice A9 J.kids.length c9,J.pos]:=by simpa using hi);have gh:=(fz (wk:=w9) (K:=K) (o:=8) (a:=.int .i64 J.kind) (b:=.string J.text) (c:=.slice A9 J.kids.length c9) (d:=.int .i64 J.pos) (X:=fun b=>w.heap.size+1<=b/\b≠K) (fun b hb=>hb.2)).block;have D:=(D.mono (Y:=fun b=>w.heap.size+1<=b/\b≠K) (fun b hb _=>⟨hb.1,by omega⟩)).keep gh;have I:=(I.mono (Y:=fun b=>w.heap.size+1<=b/\b≠K) (fun b hb _=>⟨hb.1,by omega⟩)).keep gh;have h6:w8.drew.heap.size=w8.heap.size:=rfl;have gj:=(gj.mono (Y:=fun b=>w.heap.size+1<=b/\b≠K) (fun b hb _=>⟨by omega,by omega⟩)).keep gh;have hV:=af.of_block (X:=fun b=>w.heap.size+1<=b) (k:=3) rfl hh (by show w.heap.size+1<=K;omega) (ag.cons (D.mono fun b hb _=>hb.1) (ag.cons (I.mono fun b hb _=>hb.1) (ag.one (gj.mono fun b hb _=>hb.1)))) 30 ⟨#[]⟩ pp;refine aC HF.out hV (mH (o:=8) hc (by omega) (by omega) (.int .i64 J.kind) (.string J.text) (.slice A9 J.kids.length c9) (.int .i64 J.pos)) (pA gv (by omega)) (gA _) gs ?_ rfl (by rfl) rfl;intro b hb;constructor<;>omega
     | false=>
      have gk:=hid (show(bC F E.c (adv s3)).bind (fun o s4=>.ok (.mk 30 ⟨#[]⟩ [n1,n2,o] pp) s4)=res by rw[<-g3.out,d5 (by rw[hJ];decide)]);refine(bU E (adv s3) ⟨#[105,102]⟩ _ gb.rd).mono ?_;rw[hJ];rintro e w8⟨rfl,N⟩;have gu:=gn.bl N;have hj:=gp.bl N;have hk:=gi.bl N;have gt:=gb.step N;have h8:=N.size;have D:=D.keep (w':=w8) (fun b _ M=>N.block b M);have I:=I.keep (w':=w8) (fun b _ M=>N.block b M);clear g3 hJ gn gp gi gb N;obtain⟨x0,x1,x2,x3,_,_,_,_⟩:=ab gu;cases hQ:bC F E.c (adv s3)with
      |out=>exact absurd gk.out.symm (by rw[hQ];exact gx.out)
      | ok J s4=>
       have HF:Hid (res=.ok (.mk 30 ⟨#[]⟩ [n1,n2,J] pp) s4):=hid (by rw[<-gk.out,hQ];rfl);have HC:=hid (fun W(hr:aU E W (adv s3))=>iA E F hF W (adv s3) hr (by rw[hQ];exact nofun));rw[hQ]at HC;clear gk hQ;go_wp2_with fail;go_region_held3 (fun w'=>w'.cell? ⟨L,2,none⟩=some (.slice (some ⟨K,0,none⟩) 3 3))
        (first|with_reducible exact z2|exact x2|(rw[gH _ _ _ _ (by exact gd),gH _ _ _ _ (by exact gd),gH _ _ _ _ (by exact gd),gH _ _ _ _ (by exact gd)];exact z2))
        ((go_at_call 88;refine(HC.out _ gt.drew.rd).mono ?_;rintro e w9⟨⟨v,rfl,g5⟩,O⟩;obtain⟨A9,c9,rfl,gj⟩:=g5.toC;have hg:=gu.drew.grown O.gr (fun e=>g9 (by injection e));have U:=hj.drew.grown O.gr (fun e=>ha (by injection e));have gv:=hk.drew.grown O.gr;obtain⟨z0,z1,z2,z3,_,_,_,_⟩:=ab hg;obtain⟨k8,k9,h5,h4⟩:=Ro U;have h3:=U.frozen 8;have h2:=U.frozen 9;have hp:=U.frozen 10;have ho:=U.frozen 11))
       have hc:=gt.drew.trans O;have h7:w8.heap.size<=w9.heap.size:=O.gr.size;have ga:=(ar.of_grown (w:=w8.drew) (X:=fun b=>w.heap.size+1<=b/\b<K) O.gr).block;have D:=(D.keep (w:=w8) (w':=w8.drew) (fun _ _ _=>rfl)).keep (w':=w9) ga;have I:=(I.keep (w:=w8) (w':=w8.drew) (fun _ _ _=>rfl)).keep (w':=w9) ga;obtain⟨d0,d1,d2,d3,e0,e1,e2,e3⟩:=ab gv;go_wp2_with fail;have hi:=lh (o:=8) (a:=.int .i64 J.kind) (b:=.string J.text) (c:=.slice A9 J.kids.length c9) (d:=.int .i64 J.pos) U;(have hh:an (iO w9 K 8 (.int .i64 J.kind) (.string J.text) (.slice A9 J.kids.length c9) (.int .i64 J.pos)) K 24 #[n1.kind,n1.text,.slice A3 n1.kids.length c3,n1.pos,n2.kind,n2.text,.slice A4 n2.kids.length c4,n2.pos,J.kind,J.text,.slice A9 J.kids.length c9,J.pos]:=by simpa using hi);have gh:=(fz (wk:=w9) (K:=K) (o:=8) (a:=.int .i64 J.kind) (b:=.string J.text) (c:=.slice A9 J.kids.length c9) (d:=.int .i64 J.pos) (X:=fun b=>w.heap.size+1<=b/\b≠K) (fun b hb=>hb.2)).block;have D:=(D.mono (Y:=fun b=>w.heap.size+1<=b/\b≠K) (fun b hb _=>⟨hb.1,by omega⟩)).keep gh;have I:=(I.mono (Y:=fun b=>w.heap.size+1<=b/\b≠K) (fun b hb _=>⟨hb.1,by omega⟩)).keep gh;have h6:w8.drew.heap.size=w8.heap.size:=rfl;have gj:=(gj.mono (Y:=fun b=>w.heap.size+1<=b/\b≠K) (fun b hb _=>⟨by omega,by omega⟩)).keep gh;have hV:=af.of_block (X:=fun b=>w.heap.size+1<=b) (k:=3) rfl hh (by show w.heap.size+1<=K;omega) (ag.cons (D.mono fun b hb _=>hb.1) (ag.cons (I.mono fun b hb _=>hb.1) (ag.one (gj.mono fun b hb _=>hb.1)))) 30 ⟨#[]⟩ pp;refine aC HF.out hV (mH (o:=8) hc (by omega) (by omega) (.int .i64 J.kind) (.string J.text) (.slice A9 J.kids.length c9) (.int .i64 J.pos)) (pA gv (by omega)) (gA _) gs ?_ rfl (by rfl) rfl;intro b hb;constructor<;>omega
theorem Lp(E:cy)(F:iE)(hF:pw E F)(hR:uC E F)(hS:uF E)(ji:Ln E):eC E (fY F) 135:=by
 intro w s h hno;generalize D:fY F E.c s=res at *;have hw:=hid D;have ge:=hid hno;have J:=h.lt;clear D hno;(go_enter func135,ntmps135);go_wp2_with fail;refine(b8 E s _ (h.alloc _)).mono ?_;unfold iI;rintro e w1⟨rfl,he⟩;have g5:=(((cN.refl h).alloc _).step he).moved;have hf:=(an.new w 24 bP).below he (by simp);(have jn:w.heap.size+1<=w1.heap.size:=by have:=he.size;simp at this;omega);clear he;generalize hpp:aM E.c s=pp at *;have gs:=hid (show(if aS E.c s ⟨#[118,97,114]⟩then eM F E.c s
  else if aS E.c s ⟨#[105,102]⟩then IB F E.c s
  else if aS E.c s ⟨#[102,111,114]⟩then p9 F E.c s
  else if aS E.c s ⟨#[123]⟩then bC F E.c s
  else if aS E.c s ⟨#[114,101,116,117,114,110]⟩then
   if eT E.c (adv s)||aS E.c (adv s) ⟨#[125]⟩then .ok (.mk 33 ⟨#[]⟩ [bX] pp) (adv s)
   else(F.expr E.c (adv s)).bind fun x s1=>.ok (.mk 33 ⟨#[]⟩ [x] pp) s1
  else if aS E.c s ⟨#[98,114,101,97,107]⟩then .ok (.mk 34 ⟨#[]⟩ [] pp) (adv s)
  else if aS E.c s ⟨#[99,111,110,116,105,110,117,101]⟩then .ok (.mk 35 ⟨#[]⟩ [] pp) (adv s)
  else ii F E.c s)=res by rw[<-hw.out,<-hpp];rfl)
 rw[show(ay E.c s.at_).pos=pp from hpp];clear hpp hw;go_wp2_with fail;cases g4:aS E.c s ⟨#[118,97,114]⟩with
 |true=>
  have HY:Hid (eM F E.c s=res):=hid (by rw[<-gs.out,gF g4]);clear gs;refine(bU E s ⟨#[118,97,114]⟩ _ g5.rd).mono ?_;rw[g4];rintro e v1⟨rfl,hb⟩;have hr:=g5.step hb;have h6:=hf.bl hb;have gz:=hb.size;clear g4 hb g5 hf;go_wp2_with fail;refine(Ax E F hF _ s hr.rd (by rw[HY.out];exact ge.out)).mono ?_;rw[HY.out];cases D:res with
  |out=>exact absurd D ge.out
  |ok n5 s5=>rintro e w5⟨⟨v5,rfl,N⟩,O⟩;obtain⟨A5,c5,rfl,hg⟩:=N.toC;have U:=h6.grown O.gr;have gn:=hr.trans O;obtain⟨d0,d1,d2,d3,e0,e1,e2,e3⟩:=ab U;go_wp2_with fail;refine aC (by first|rfl|exact D) N gn U (gA _) J ?_ rfl (by rfl) rfl;intro b hb;constructor<;>omega
 | false=>
  have hl:Hid (_=res):=hid ((d5 (by rw[g4];decide)).symm.trans gs.out);clear gs;refine(bU E s ⟨#[118,97,114]⟩ _ g5.rd).mono ?_;rw[g4];rintro e u2⟨rfl,hb⟩;have gl:=g5.step hb;have gx:=hf.bl hb;have jg:=hb.size;clear g4 hb g5 hf;go_wp2_with fail;cases g3:aS E.c s ⟨#[105,102]⟩with
  |true=>
   have HY:Hid (IB F E.c s=res):=hid (by rw[<-hl.out,gF g3]);clear hl;refine(bU E s ⟨#[105,102]⟩ _ gl.rd).mono ?_;rw[g3];rintro e v3⟨rfl,hb⟩;have hp:=gl.step hb;have h5:=gx.bl hb;have gz:=hb.size;clear g3 hb gl gx;go_wp2_with fail;refine(Lo E F hF _ s hp.rd (by rw[HY.out];exact ge.out)).mono ?_;rw[HY.out];cases D:res with
   |out=>exact absurd D ge.out
   |ok n5 s5=>rintro e w5⟨⟨v5,rfl,N⟩,O⟩;obtain⟨A5,c5,rfl,hg⟩:=N.toC;have U:=h5.grown O.gr;have gn:=hp.trans O;obtain⟨d0,d1,d2,d3,e0,e1,e2,e3⟩:=ab U;go_wp2_with fail;refine aC (by first|rfl|exact D) N gn U (gA _) J ?_ rfl (by rfl) rfl;intro b hb;constructor<;>omega
  | false=>
   have hk:Hid (_=res):=hid ((d5 (by rw[g3];decide)).symm.trans hl.out);clear hl;refine(bU E s ⟨#[105,102]⟩ _ gl.rd).mono ?_;rw[g3];rintro e u4⟨rfl,hb⟩;have gk:=gl.step hb;have gw:=gx.bl hb;have jf:=hb.size;clear g3 hb gl gx;go_wp2_with fail;cases g2:aS E.c s ⟨#[102,111,114]⟩with
   |true=>
    have HY:Hid (p9 F E.c s=res):=hid (by rw[<-hk.out,gF g2]);clear hk;refine(bU E s ⟨#[102,111,114]⟩ _ gk.rd).mono ?_;rw[g2];rintro e v5⟨rfl,hb⟩;have ho:=gk.step hb;have h4:=gw.bl hb;have gz:=hb.size;clear g2 hb gk gw;go_wp2_with fail;refine(OV E F hF hR hS ji _ s ho.rd (by rw[HY.out];exact ge.out)).mono ?_;rw[HY.out];cases D:res with
    |out=>exact absurd D ge.out
    |ok n5 s5=>rintro e w5⟨⟨v5,rfl,N⟩,O⟩;obtain⟨A5,c5,rfl,hg⟩:=N.toC;have U:=h4.grown O.gr;have gn:=ho.trans O;obtain⟨d0,d1,d2,d3,e0,e1,e2,e3⟩:=ab U;go_wp2_with fail;refine aC (by first|rfl|exact D) N gn U (gA _) J ?_ rfl (by rfl) rfl;intro b hb;constructor<;>omega
   | false=>
    have hj:Hid (_=res):=hid ((d5 (by rw[g2];decide)).symm.trans hk.out);clear hk;refine(bU E s ⟨#[102,111,114]⟩ _ gk.rd).mono ?_;rw[g2];rintro e u6⟨rfl,hb⟩;have gj:=gk.step hb;have gv:=gw.bl hb;have je:=hb.size;clear g2 hb gk gw;go_wp2_with fail;cases g1:aS E.c s ⟨#[123]⟩with
    |true=>
     have HY:Hid (bC F E.c s=res):=hid (by rw[<-hj.out,gF g1]);clear hj;refine(bU E s ⟨#[123]⟩ _ gj.rd).mono ?_;rw[g1];rintro e v7⟨rfl,hb⟩;have hn:=gj.step hb;have h3:=gv.bl hb;have gz:=hb.size;clear g1 hb gj gv;go_wp2_with fail;refine(iA E F hF _ s hn.rd (by rw[HY.out];exact ge.out)).mono ?_;rw[HY.out];cases D:res with
     |out=>exact absurd D ge.out
     |ok n5 s5=>rintro e w5⟨⟨v5,rfl,N⟩,O⟩;obtain⟨A5,c5,rfl,hg⟩:=N.toC;have U:=h3.grown O.gr;have gn:=hn.trans O;obtain⟨d0,d1,d2,d3,e0,e1,e2,e3⟩:=ab U;go_wp2_with fail;refine aC (by first|rfl|exact D) N gn U (gA _) J ?_ rfl (by rfl) rfl;intro b hb;constructor<;>omega
    | false=>
     have hi:Hid (_=res):=hid ((d5 (by rw[g1];decide)).symm.trans hj.out);clear hj;refine(bU E s ⟨#[123]⟩ _ gj.rd).mono ?_;rw[g1];rintro e u8⟨rfl,hb⟩;have gi:=gj.step hb;have gu:=gv.bl hb;have jd:=hb.size;clear g1 hb gj gv;go_wp2_with fail;cases g0:aS E.c s ⟨#[114,101,116,117,114,110]⟩with
     | true=>
      refine(bB E s _ _ gi.rd g0).mono ?_;rintro e v9⟨rfl,hm⟩;have g8:=gi.trans hm;have ht:=gu.grown hm.gr;have gz:=hm.gr.size;have HY:=hid (hi.out.symm.trans (gF g0));clear hi hm gi gu g0;go_wp2_with fail;refine(BE E (adv s) _ g8.rd).mono ?_;rintro e w6⟨rfl,ha⟩;have M:=g8.trans ha.moved;have I:=ht.bl ha.bel;have jm:=ha.bel.size;clear ha g8 ht;have h8:Go.RowKit.Hid (∀w7:World,aw E (adv s) w w7->an w7 w.heap.size 24 bP->w.heap.size+1<=w7.heap.size->True):=hid (fun _ _ _ _=>trivial);clear h8;cases hA:eT E.c (adv s)with
      |true=>have HZ:=hid (show res=.ok (.mk 33 ⟨#[]⟩ [bX] pp) (adv s)by rw[HY.out,hA];rfl);clear HY hA;go_wp2_with fail;refine(aQ _ _ _ _ _ ⟨_,_,_,rfl⟩).mono ?_;rintro e w9⟨rfl,gd⟩;have gt:=(I.alloc _).below gd (by have:=I.lt;simp;omega);have g9:=(M.alloc _).step gd;obtain⟨d0,d1,d2,d3,e0,e1,e2,e3⟩:=ab gt;go_wp2_with fail;have hV:=af.make 1 rfl (ag.one (eP (X:=fun b=>w.heap.size+1<=b))) 33 ⟨#[]⟩ pp gd;refine aC HZ.out hV g9 gt (gA _) J ?_ rfl (by rfl) rfl;rintro b(⟨hb,_⟩|rfl)<;>constructor<;>omega
      | false=>
       go_wp2_with fail;cases hB:aS E.c (adv s) ⟨#[125]⟩with
       |true=>have HZ:=hid (show res=.ok (.mk 33 ⟨#[]⟩ [bX] pp) (adv s)by rw[HY.out,hA,hB];rfl);refine(bU E (adv s) ⟨#[125]⟩ _ M.rd).mono ?_;rw[hB];rintro e w7⟨rfl,gm⟩;have M:=M.step gm;have I:=I.bl gm;have jh:=gm.size;clear HY hA hB gm;go_wp2_with fail;refine(aQ _ _ _ _ _ ⟨_,_,_,rfl⟩).mono ?_;rintro e w9⟨rfl,gd⟩;have gt:=(I.alloc _).below gd (by have:=I.lt;simp;omega);have g9:=(M.alloc _).step gd;obtain⟨d0,d1,d2,d3,e0,e1,e2,e3⟩:=ab gt;go_wp2_with fail;have hV:=af.make 1 rfl (ag.one (eP (X:=fun b=>w.heap.size+1<=b))) 33 ⟨#[]⟩ pp gd;refine aC HZ.out hV g9 gt (gA _) J ?_ rfl (by rfl) rfl;rintro b(⟨hb,_⟩|rfl)<;>constructor<;>omega
       |false=>
        have HZ:=hid (show(F.expr E.c (adv s)).bind (fun x s1=>.ok (.mk 33 ⟨#[]⟩ [x] pp) s1)=res by rw[HY.out,hA,hB];rfl);refine(bU E (adv s) ⟨#[125]⟩ _ M.rd).mono ?_;rw[hB];rintro e w7⟨rfl,gm⟩;have M:=M.step gm;have I:=I.bl gm;have jh:=gm.size;clear HY hA hB gm;go_wp2_with fail;cases hP:F.expr E.c (adv s)with
        |out=>exact absurd HZ.out.symm (by rw[hP];exact ge.out)
        |ok n1 s3=>have HF:Hid (res=.ok (.mk 33 ⟨#[]⟩ [n1] pp) s3):=hid (by rw[<-HZ.out,hP];rfl);refine(hF.expr _ (adv s) M.rd (by rw[hP];exact nofun)).mono ?_;rw[hP];rintro e w8⟨⟨v,rfl,hv⟩,hc⟩;obtain⟨A8,c8,rfl,jk⟩:=hv.toC;have jl:=hc.gr.size;have h7:=I.grown hc.gr;have jj:=M.trans hc;clear hP HZ M I hc hv;go_wp2_with fail;refine(aQ _ _ _ _ _ ⟨_,_,_,rfl⟩).mono ?_;rintro e w9⟨rfl,gd⟩;have gt:=(h7.alloc _).below gd (by have:=h7.lt;simp;omega);have g9:=(jj.alloc _).step gd;obtain⟨d0,d1,d2,d3,e0,e1,e2,e3⟩:=ab gt;go_wp2_with fail;have hV:=af.make 1 rfl (ag.one (jk.mono (Y:=fun b=>w.heap.size+1<=b) fun b hb _=>by omega)) 33 ⟨#[]⟩ pp gd;refine aC HF.out hV g9 gt (gA _) J ?_ rfl (by rfl) rfl;rintro b(⟨hb,_⟩|rfl)<;>constructor<;>omega
     | false=>
      have hh:Hid (_=res):=hid ((d5 (by rw[g0];decide)).symm.trans hi.out);clear hi;refine(cc E s _ _ gi.rd g0).mono ?_;rintro e u10⟨rfl,hq⟩;have gb:=gi.trans hq.moved;have gq:=gu.bl hq.bel;have jc:=hq.bel.size;clear g0 hq gi gu;go_wp2_with fail;cases gh:aS E.c s ⟨#[98,114,101,97,107]⟩with
      |true=>refine(bB E s _ _ gb.rd gh).mono ?_;rintro e v11⟨rfl,hm⟩;have hz:=gb.trans hm;have h2:=gq.grown hm.gr;have gz:=hm.gr.size;have HY:=hid (hh.out.symm.trans (gF gh));clear hh hm gb gq gh;go_wp2_with fail;refine(aQ _ _ _ _ _ ⟨_,_,_,rfl⟩).mono ?_;rintro e w6⟨rfl,g6⟩;have I:=h2.bl g6;have M:=hz.step g6;obtain⟨d0,d1,d2,d3,e0,e1,e2,e3⟩:=ab I;go_wp2_with fail;refine aC (X:=fun b=>w.heap.size+1<=b) HY.out (af.leaf 34 ⟨#[]⟩ pp) M I (gA _) J ?_ rfl (by rfl) rfl;intro b hb;constructor<;>omega
      | false=>
       have gy:Hid (_=res):=hid ((d5 (by rw[gh];decide)).symm.trans hh.out);clear hh;refine(cc E s _ _ gb.rd gh).mono ?_;rintro e u12⟨rfl,hq⟩;have ga:=gb.trans hq.moved;have gp:=gq.bl hq.bel;have jb:=hq.bel.size;clear gh hq gb gq;go_wp2_with fail;cases gg:aS E.c s ⟨#[99,111,110,116,105,110,117,101]⟩with
       |true=>refine(bB E s _ _ ga.rd gg).mono ?_;rintro e v13⟨rfl,hm⟩;have hy:=ga.trans hm;have h1:=gp.grown hm.gr;have gz:=hm.gr.size;have HY:=hid (gy.out.symm.trans (gF gg));clear gy hm ga gp gg;go_wp2_with fail;refine(aQ _ _ _ _ _ ⟨_,_,_,rfl⟩).mono ?_;rintro e w6⟨rfl,g6⟩;have I:=h1.bl g6;have M:=hy.step g6;obtain⟨d0,d1,d2,d3,e0,e1,e2,e3⟩:=ab I;go_wp2_with fail;refine aC (X:=fun b=>w.heap.size+1<=b) HY.out (af.leaf 35 ⟨#[]⟩ pp) M I (gA _) J ?_ rfl (by rfl) rfl;intro b hb;constructor<;>omega
       |false=>
        have hu:Hid (_=res):=hid ((d5 (by rw[gg];decide)).symm.trans gy.out);clear gy;refine(cc E s _ _ ga.rd gg).mono ?_;rintro e u14⟨rfl,hq⟩;have g7:=ga.trans hq.moved;have h0:=gp.bl hq.bel;have ja:=hq.bel.size;clear gg hq ga gp;go_wp2_with fail;refine(uD E F hF hR _ s g7.rd (by rw[hu.out];exact ge.out)).mono ?_;rw[hu.out];cases D:res with
        |out=>exact absurd D ge.out
        |ok n5 s5=>rintro e w5⟨⟨v5,rfl,N⟩,O⟩;obtain⟨A5,c5,rfl,hg⟩:=N.toC;have U:=h0.grown O.gr;have gn:=g7.trans O;obtain⟨d0,d1,d2,d3,e0,e1,e2,e3⟩:=ab U;go_wp2_with fail;refine aC (by first|rfl|exact D) N gn U (gA _) J ?_ rfl (by rfl) rfl;intro b hb;constructor<;>omega
theorem Ce(E:cy)(F:iE)(hF:pw E F)(B:Nat)(w0:World)(hB:w0.cell? ⟨B,0,none⟩=some (.pointer (some ⟨E.R,0,none⟩)))(J:B≠E.R):
  sH E 224 #[B] (a6 F.expr ⟨#[125]⟩ F.g []) w0:=by
 intro w s hgr h hno;have O:=hgr.cell hB (fun e=>J (by injection e));have I:=hid (pq E 41 #[E.R] #[] F.expr ⟨#[125]⟩ F.g s w h (fun a w=>by kernel_rfl) (show fZ E 41 (#[.pointer (some ⟨E.R,0,none⟩)] ++ #[]) F.expr w from hF.expr.part w) hno hF.g);generalize hres:a6 F.expr ⟨#[125]⟩ F.g [] E.c s=res at *;clear hres hB hgr;have M:=hid hno;clear hno;(go_enter func224,ntmps224);go_wp2_with fail;refine I.out.mono ?_;cases res with
 |out=>exact absurd rfl M.out
 |ok l s1=>rintro e w2⟨⟨v,rfl,N⟩,D⟩;go_wp2_with fail;go_ret;exact⟨⟨_,rfl,N⟩,D⟩
theorem Gu(E:cy)(F:iE)(hF:pw E F)(B:Nat)(w0:World)(hB:w0.cell? ⟨B,0,none⟩=some (.pointer (some ⟨E.R,0,none⟩)))(J:B≠E.R):
  sH E 186 #[B] (a6 F.expr ⟨#[41]⟩ F.g []) w0:=by
 intro w s hgr h hno;have O:=hgr.cell hB (fun e=>J (by injection e));have I:=hid (pq E 41 #[E.R] #[] F.expr ⟨#[41]⟩ F.g s w h (fun a w=>by kernel_rfl) (show fZ E 41 (#[.pointer (some ⟨E.R,0,none⟩)] ++ #[]) F.expr w from hF.expr.part w) hno hF.g);generalize hres:a6 F.expr ⟨#[41]⟩ F.g [] E.c s=res at *;clear hres hB hgr;have M:=hid hno;clear hno;(go_enter func186,ntmps186);go_wp2_with fail;refine I.out.mono ?_;cases res with
 |out=>exact absurd rfl M.out
 |ok l s1=>rintro e w2⟨⟨v,rfl,N⟩,D⟩;go_wp2_with fail;go_ret;exact⟨⟨_,rfl,N⟩,D⟩
theorem Gv(E:cy)(F:iE)(hF:pw E F)(B:Nat)(w0:World)(hB:w0.cell? ⟨B,0,none⟩=some (.pointer (some ⟨E.R,0,none⟩)))(J:B≠E.R):
  sH E 187 #[B] (a6 (cY F) ⟨#[93]⟩ F.g []) w0:=by
 intro w s hgr h hno;have O:=hgr.cell hB (fun e=>J (by injection e));have I:=hid (pq E 188 #[E.R] #[] (cY F) ⟨#[93]⟩ F.g s w h (fun a w=>by kernel_rfl) (show fZ E 188 (#[.pointer (some ⟨E.R,0,none⟩)] ++ #[]) (cY F) w from(uE E F hF).part w) hno hF.g);generalize hres:a6 (cY F) ⟨#[93]⟩ F.g [] E.c s=res at *;clear hres hB hgr;have M:=hid hno;clear hno;(go_enter func187,ntmps187);go_wp2_with fail;refine I.out.mono ?_;cases res with
 |out=>exact absurd rfl M.out
 |ok l s1=>rintro e w2⟨⟨v,rfl,N⟩,D⟩;go_wp2_with fail;go_ret;exact⟨⟨_,rfl,N⟩,D⟩
end
end Go.Proofs.YtiebcdeafofgdaaGreatDoor
