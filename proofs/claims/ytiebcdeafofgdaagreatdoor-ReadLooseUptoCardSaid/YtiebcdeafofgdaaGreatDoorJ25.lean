/-
  Parts of the proof: Rdecl Rfile Rcatch Runary Rlitk. By an AI agent.
-/
import Derived.Test.YtiebcdeafofgdaaGreatDoorJ23
import Derived.Test.YtiebcdeafofgdaaGreatDoorJ04
import Derived.Test.YtiebcdeafofgdaaGreatDoorJ05
import Derived.Test.YtiebcdeafofgdaaGreatDoorJ24
import Derived.Deep.RegionHeld2
import Derived.BigQuiet
import Derived.Defers
import Derived.Recover
open Go.Proofs.Tryz
set_option maxRecDepth 100000
set_option maxHeartbeats 8000000
namespace Go.Proofs.YtiebcdeafofgdaaGreatDoor
section
open Go.RowKit Go.Lib Go.Proofs
attribute [local go_sem ↓] Go.wp_at_zero Go.wp_at_succ
attribute [local go_sem] aV aW aX bv bw bz bA
abbrev Tm(P Q:Nat)(p0 p1 p2 p3 q0 q1 q2 q3:Value)(w:World):Prop:=
 w.cell? ⟨P,0,none⟩=some p0/\w.cell? ⟨P,1,none⟩=some p1/\w.cell? ⟨P,2,none⟩=some p2/\w.cell? ⟨P,3,none⟩=some p3 /\
 w.cell? ⟨Q,0,none⟩=some q0/\w.cell? ⟨Q,1,none⟩=some q1/\w.cell? ⟨Q,2,none⟩=some q2/\w.cell? ⟨Q,3,none⟩=some q3
theorem nw{w:World}{P Q:Nat}{t t':TypeId}{p0 p1 p2 p3 q0 q1 q2 q3:Value}(I:an w P t #[p0,p1,p2,p3])(D:an w Q t' #[q0,q1,q2,q3]):Tm P Q p0 p1 p2 p3 q0 q1 q2 q3 w:=
 ⟨by simpa using I.cell 0,by simpa using I.cell 1,by simpa using I.cell 2,by simpa using I.cell 3,by simpa using D.cell 0,by simpa using D.cell 1,by simpa using D.cell 2,by simpa using D.cell 3⟩
theorem Lw(E:cy)(F:iE)(hF:pw E F):eC E (tq F) 67:=by
 intro w s h hno;generalize hres:tq F E.c s=res at *;have O:=hid hres;have U:=hid hno;have gx:=h.lt;clear hres hno;(go_enter func67,ntmps67);go_wp2_with fail;refine(b8 E s _ (h.alloc _)).mono ?_;unfold iI;rintro e w1⟨rfl,gl⟩;have gk:=((cN.refl h).alloc _).step gl;have gt:=(an.new w 24 bP).below gl (by simp);have hl:=gt.lt;clear gl;go_wp2_with fail;cases hA:aS E.c s ⟨#[102,117,110,99]⟩with
 | true=>
  have HE:=hid (show(eK E.c (adv s)).bind (fun x s1=>(lS E.c s1).bind fun ps s2=>(nN F (aM E.c s) E.c s2).bind fun sg s3=>(bC F E.c s3).bind fun b s4=>.ok (.mk 2 x [ps,sg,b] (aM E.c s)) s4)=res by rw[<-O.out,tq,gF hA]);refine(bB E s _ w1 gk.rd hA).mono ?_;rintro e w2⟨rfl,gd⟩;have hh:=gt.grown gd.gr;have gs:=gk.moved.trans gd;have h2:=gd.gr.size;clear O hA gt gk gd;go_wp2_with fail;by_cases hN:(ay E.c (adv s).at_).kind=1
  case neg=>exact absurd (show res=.out by rw[<-HE.out,eK,d5 hN];rfl) U.out
  have gw:=hid (show(lS E.c (adv (adv s))).bind (fun ps s2=>(nN F (aM E.c s) E.c s2).bind fun sg s3=>(bC F E.c s3).bind fun b s4=>.ok (.mk 2 (ay E.c (adv s).at_).text [ps,sg,b] (aM E.c s)) s4)=res by rw[<-HE.out,eK,gF hN];rfl);refine(ni E (adv s) _ gs.rd hN).mono ?_;rintro e w3⟨rfl,gb⟩;have hg:=hh.grown gb.gr;have gq:=gs.trans gb;have h1:=gb.gr.size;clear HE hN hh gs gb;generalize(ay E.c (adv s).at_).text=tx at *;generalize hpp:aM E.c s=pp at *;rw[show(ay E.c s.at_).pos=pp from hpp];clear hpp;go_wp2_with fail;cases hP:lS E.c (adv (adv s))with
  |out=>exact absurd gw.out.symm (by rw[hP];exact U.out)
  | ok ps s2=>
   have gv:=hid (show(nN F pp E.c s2).bind (fun sg s3=>(bC F E.c s3).bind fun b s4=>.ok (.mk 2 tx [ps,sg,b] pp) s4)=res by rw[<-gw.out,hP];rfl);refine(B7 E _ (adv (adv s)) gq.rd (by rw[hP];exact nofun)).mono ?_;rw[hP];rintro e w4⟨⟨v,rfl,hv⟩,ga⟩;obtain⟨A4,c4,rfl,gj⟩:=hv.toC;have gj:=gj.mono (Y:=fun b=>w.heap.size+1<=b) (fun b hb _=>by omega);have hf:=hg.grown ga.gr;have g8:=gq.trans ga;have h0:=ga.gr.size;clear hP gw gq hg ga hv;go_wp2_with fail;have g5:=an.new w4 24 (nv ps A4 c4);have he:=hf.alloc (.cells (nv ps A4 c4) 24);have gp:=g8.alloc (.cells (nv ps A4 c4) 24);have N:=gj.keep (w':=w4.alloc (.cells (nv ps A4 c4) 24)) (fun b _ hlt=>jF w4 _ b hlt);(have hz:w4.heap.size+1=(w4.alloc (.cells (nv ps A4 c4) 24)).heap.size:=by simp);generalize hPP:w4.heap.size=P at *;generalize w4.alloc (.cells (nv ps A4 c4) 24)=w5 at *;clear hf g8 gj hPP;cases hS:nN F pp E.c s2 with
   |out=>exact absurd gv.out.symm (by rw[hS];exact U.out)
   | ok sg s3=>
    have gu:=hid (show(bC F E.c s3).bind (fun b s4=>.ok (.mk 2 tx [ps,sg,b] pp) s4)=res by rw[<-gv.out,hS];rfl);refine(pP E F hF pp _ s2 gp.rd (by rw[hS];exact nofun)).mono ?_;rw[hS];rintro e w6⟨⟨v,rfl,hv⟩,I⟩;obtain⟨A6,c6,rfl,M⟩:=hv.toC;have M:=M.mono (Y:=fun b=>w.heap.size+1<=b) (fun b hb _=>by omega);have hc:=he.grown I.gr;have g4:=g5.grown I.gr;have N:=N.keep (w':=w6) (ar.of_grown (X:=fun b=>w.heap.size+1<=b) I.gr).block;have g7:=gp.trans I;have hy:=I.gr.size;clear hS gv gp he g5 I hv;go_wp2_with fail;have gm:=an.new w6 24 (nv sg A6 c6);have gn:=g4.alloc (.cells (nv sg A6 c6) 24);have ha:=hc.alloc (.cells (nv sg A6 c6) 24);have g6:=g7.alloc (.cells (nv sg A6 c6) 24);have M:=M.keep (w':=w6.alloc (.cells (nv sg A6 c6) 24)) (fun b _ hlt=>jF w6 _ b hlt);have N:=N.keep (w':=w6.alloc (.cells (nv sg A6 c6) 24)) (fun b _ hlt=>jF w6 _ b hlt);(have hw:w6.heap.size+1=(w6.alloc (.cells (nv sg A6 c6) 24)).heap.size:=by simp);generalize hQQ:w6.heap.size=Q at *;generalize w6.alloc (.cells (nv sg A6 c6) 24)=w7 at *;clear hc g7 hQQ g4;have s7:=nw gn gm;have hk:=nw gn.drew gm.drew;(have hn:P≠E.R:=by omega);(have hm:Q≠E.R:=by omega);(have gh:w.heap.size≠P:=by omega);(have ge:w.heap.size≠Q:=by omega);cases hB:bC F E.c s3 with
    |out=>exact absurd gu.out.symm (by rw[hB];exact U.out)
    | ok b s4=>
     have HC:=hid (fun W(hr:aU E W s3)=>iA E F hF W s3 hr (by rw[hB];exact nofun));have HF:Hid (res=.ok (.mk 2 tx [ps,sg,b] pp) s4):=hid (by rw[<-gu.out,hB];rfl);rw[hB]at HC;clear gu hB;go_region_held3 (fun w'=>w'.cell? ⟨P,0,none⟩=some (.int .i64 ps.kind)/\w'.cell? ⟨P,1,none⟩=some (.string ps.text)/\w'.cell? ⟨P,2,none⟩=some (.slice A4 ps.kids.length c4)/\w'.cell? ⟨P,3,none⟩=some (.int .i64 ps.pos)/\w'.cell? ⟨Q,0,none⟩=some (.int .i64 sg.kind)/\w'.cell? ⟨Q,1,none⟩=some (.string sg.text)/\w'.cell? ⟨Q,2,none⟩=some (.slice A6 sg.kids.length c6)/\w'.cell? ⟨Q,3,none⟩=some (.int .i64 sg.pos))
      (first|with_reducible exact s9 _ _ _ _|with_reducible exact hi|with_reducible exact hj _|with_reducible exact s8|with_reducible exact hk|with_reducible exact s7)
      (first
       |(go_at_call 88;refine(HC.out _ g6.drew.rd).mono ?_;rintro e w8⟨⟨v,rfl,hv⟩,D⟩;obtain⟨An,cn,rfl,hq⟩:=hv.toC;have gi:=gn.drew.grown D.gr (fun e=>hn (by injection e));have gg:=gm.drew.grown D.gr (fun e=>hm (by injection e));have s8:=nw gi gg;have hj:=fun o:Obj=>nw (gi.alloc o) (gg.alloc o))
       |(go_at_call 64;refine(aQ _ _ _ _ _ ⟨_,_,_,rfl⟩).mono ?_;rintro e w9⟨rfl,J⟩;have gz:=(gi.alloc _).below J (by have:=gi.lt;simp;omega);have gy:=(gg.alloc _).below J (by have:=gg.lt;simp;omega);have hi:=nw gz gy;have s9:=fun a b c d:Value=>nw ((((gz.far (p:=⟨w,0,none⟩) (by exact gh.symm) a).far (p:=⟨w,1,none⟩) (by exact gh.symm) b).far (p:=⟨w,2,none⟩) (by exact gh.symm) c).far (p:=⟨w,3,none⟩) (by exact gh.symm) d) ((((gy.far (p:=⟨w,0,none⟩) (by exact ge.symm) a).far (p:=⟨w,1,none⟩) (by exact ge.symm) b).far (p:=⟨w,2,none⟩) (by exact ge.symm) c).far (p:=⟨w,3,none⟩) (by exact ge.symm) d);have g9:=((ha.drew.grown D.gr).alloc _).below J (by have:=(ha.drew.grown D.gr).lt;simp;omega);obtain⟨g0,g1,g2,g3,k0,k1,k2,k3⟩:=ab g9))
     (all_goals go_wp2_with fail);have hu:w7.heap.size<=w8.heap.size:=D.gr.size;have hp:=(N.keep (w:=w7) (w':=w7.drew) (fun _ _ _=>rfl)).keep (w':=w8) (ar.of_grown (X:=fun b=>w.heap.size+1<=b) D.gr).block;have ho:=(M.keep (w:=w7) (w':=w7.drew) (fun _ _ _=>rfl)).keep (w':=w8) (ar.of_grown (X:=fun b=>w.heap.size+1<=b) D.gr).block;have ht:w7.drew.heap.size=w7.heap.size:=rfl;have hV:=af.make 3 rfl (ag.cons hp (ag.cons ho (ag.one (hq.mono (Y:=fun b=>w.heap.size+1<=b) fun b hb _=>by omega)))) 2 tx pp J;refine aC HF.out hV (((g6.drew.trans D).alloc _).step J) g9 (gA _) gx ?_ rfl (by rfl) rfl;rintro b(⟨hb,_⟩|rfl)<;>constructor<;>omega
 |false=>exact absurd (show res=.out by rw[<-O.out,tq,d5 (by rw[hA];decide)]) U.out
theorem Lx (E:cy)(F:iE)(hF:pw E F):eC E (rG F) 32:=by
 intro w s h hno;generalize hres:rG F E.c s=res at *;have ge:=hid hres;have M:=hid hno;have ha:=h.lt;have hl:=(aw.refl h).alloc (.cells bP 24);clear hres hno;(go_enter func32,ntmps32);go_wp2_with fail;refine(b8 E s _ (h.alloc _)).mono ?_;unfold iI;rintro e w1⟨rfl,gx⟩;have g5:=(an.new w 24 bP).below gx (by simp);have g0:=hl.step gx;have h0:=g5.lt;clear gx hl;go_wp2_with fail;cases hA:aS E.c s ⟨#[112,97,99,107,97,103,101]⟩with
 |false=>exact absurd (show res=.out by rw[<-ge.out,rG,ci];simp[hA]) M.out
 | true=>
  have HE:=hid (show(eK E.c (adv s)).bind (fun x D=>lL F (aM E.c s) x F.g [] E.c D)=res by rw[<-ge.out,rG,ci];simp only[hA,kW,cC.bind_ok]);refine(dU E s _ _ g0.rd hA).mono ?_;rintro e w2⟨rfl,gh⟩;have ht:=g5.grown gh.gr;have gz:=g0.trans gh;have h7:=gh.gr.size;clear ge hA g5 g0 gh;go_wp2_with fail;by_cases hN:(ay E.c (adv s).at_).kind=1
  case neg=>exact absurd (show res=.out by rw[<-HE.out,eK,d5 hN];rfl) M.out
  have N:Hid (lL F (aM E.c s) (ay E.c (adv s).at_).text F.g [] E.c (adv (adv s))=res):=hid (by rw[<-HE.out,eK,gF hN];rfl);refine(ni E (adv s) _ gz.rd hN).mono ?_;rintro e w3⟨rfl,gg⟩;have hq:=ht.grown gg.gr;have hj:=gz.trans gg;have h6:=gg.gr.size;clear HE hN ht gz gg;generalize(ay E.c (adv s).at_).text=tx at *;generalize hpp:aM E.c s=p at *;rw[show(ay E.c s.at_).pos=p from hpp];clear hpp;go_wp2_with fail;refine(aQ _ _ _ _ _ ⟨_,_,_,rfl⟩).mono ?_;rintro e w4⟨rfl,gw⟩;have g4:=hq.bl gw;have hi:=hj.step gw;have hz:=g4.lt;clear gw hj hq;have hn:=an.new w4 24 #[.int .i64 1,.string tx,.slice none 0 0,.int .i64 p];have hp:=g4.alloc (.cells #[.int .i64 1,.string tx,.slice none 0 0,.int .i64 p] 24);have hh:=hi.alloc (.cells #[.int .i64 1,.string tx,.slice none 0 0,.int .i64 p] 24);go_wp2_with fail;generalize hL:w4.heap.size=L at *;(have h4:w.heap.size<L:=by omega);generalize w4.alloc (.cells #[.int .i64 1,.string tx,.slice none 0 0,.int .i64 p] 24)=w5 at *;clear g4 hi hL;go_loopg [] F.g (fun g wr=>∃(acc:List Nd)(s':St)(u:Value),an wr L 24 #[.int .i64 1,.string tx,u,.int .i64 p]/\lE (w.heap.size+1) (fun b=>b=L) wr u acc/\an wr w.heap.size 24 bP/\acc.length+g<=1000001/\lL F p tx g acc E.c s'=res/\aw E s' w wr)
  case atStart=>exact⟨[],adv (adv s),_,hn,lE.nil _ _ _,hp,by have:=hF.g;simp;omega,N.out,hh⟩
  case round=>
   clear hn hp hh N;obtain⟨acc,D,u,hL,HO,hG,h5,hr,hM⟩:=hrel;have HR:=hid hr;clear hr;cases gk with
   |zero=>exact absurd HR.out.symm (by rw[lL];exact M.out)
   | succ g1=>
    go_wp2_with fail;refine(nO E D _ hM.rd).mono ?_;rintro e w6⟨rfl,O⟩;have g3:=hL.grown O.gr;have gl:=hG.grown O.gr;have gm:=HO.grown O.gr (by omega);have gb:=hM.trans O;clear hL hG HO hM O;cases gj:eT E.c D with
    |false=>have HF:Hid (res=.out):=hid (by rw[<-HR.out,lL];simp only[gj,jC,kI]);exact absurd (HF.out) M.out
    | true=>
     rw[show oA E.c D=adv D by unfold oA;rw[gj];rfl]at gb;obtain⟨c0,c1,-,-,-,-⟩:=gb.rd.cells;cases g6:(((adv D).at_:Int)==(E.c.toks.length:Int))with
     |true=>have HF:=hid (show res=.ok (.mk 1 tx acc p) (adv D)by have e:(adv D).at_=D.at_+1:=rfl;rw[kF]at g6;rw[<-HR.out,lL];simp only[gj,kW];rw[gF (by omega)]);clear HR;obtain⟨A4,c4,gq,_⟩:=gm.form;subst gq;go_wp2_with fail;go_quiet (fail);clear c0 c1;obtain⟨x0,x1,x2,x3,_,_,_,_⟩:=ab (g3.drewN nq);obtain⟨d0,d1,d2,d3,e0,e1,e2,e3⟩:=ab (gl.drewN nq);go_wp2_with fail;refine aC HF.out (af.of_slice (gm.kept ((ar.refl _ _).drewN nq)).values 1 tx p) (gb.drewN nq) (gl.drewN nq) (gA _) ha ?_ rfl (by rfl) rfl;rintro b⟨hb,_⟩;constructor<;>omega
     | false=>
      have HE:=hid (show(if aS E.c (adv D) ⟨#[102,117,110,99]⟩||(aS E.c (adv D) ⟨#[116,121,112,101]⟩||aS E.c (adv D) ⟨#[118,97,114]⟩)then(tq F E.c (adv D)).bind fun d s1=>lL F p tx g1 (acc++[d]) E.c s1 else .out)=res by have e:(adv D).at_=D.at_+1:=rfl;rw[gC]at g6;rw[<-HR.out,lL];simp only[gj,kW];rw[d5 (show ¬ D.at_+1=E.c.toks.length by omega)]);clear HR;go_wp2_with fail;go_quiet (fail);clear c0 c1;have hm:=g3.drewN nq;have ho:=gl.drewN nq;have hu:=gm.kept ((ar.refl _ _).drewN nq);have gy:=gb.drewN nq;generalize w6.drewN nq=w7 at *;clear g3 gl gm gb g6;generalize hc1:aS E.c (adv D) ⟨#[102,117,110,99]⟩=c1 at *;generalize hc2:aS E.c (adv D) ⟨#[116,121,112,101]⟩=c2 at *;generalize hc3:aS E.c (adv D) ⟨#[118,97,114]⟩=c3 at *;(go_upto_region 7 with fail);go_cut [39] (fun hw wx=>hw=.bool (!(c1||(c2||c3)))/\Below w7 w7 wx)
      case first=>
       have HI:=hid (fun(w':World)(hb:Below w7 w7 w')x=>bU E (adv D) x w' (gy.rd.below hb));go_wp2_with fail;refine(HI.out w7 (gG _ _) _).mono ?_;rw[hc1];rintro e wa⟨rfl,gv⟩;cases c1 with
       |true=>go_wp2_with fail;go_meet;exact⟨rfl,gv⟩
       |false=>
        go_wp2_with fail;refine(HI.out wa gv _).mono ?_;rw[hc2];rintro e wb⟨rfl,U⟩;have U:=aD gv U;cases c2 with
        |true=>go_wp2_with fail;go_meet;exact⟨rfl,U⟩
        |false=>go_wp2_with fail;refine(HI.out wb U _).mono ?_;rw[hc3];rintro e wd⟨rfl,gu⟩;have gu:=aD U gu;go_wp2_with fail;go_meet;exact⟨by cases c3<;>rfl,gu⟩
      case rest=>
       obtain⟨rfl,ga⟩:=hcut;have g2:=hm.bl ga;have h1:=ho.bl ga;have g7:=hu.kept (ar.of_below ga (fun b _ hlt=>hlt));have hf:=gy.step ga;clear hm ho hu gy ga;cases gt:(c1||(c2||c3))with
       |false=>have HF:Hid (res=.out):=hid (by rw[<-HE.out,gt];rfl);exact absurd (HF.out) M.out
       | true=>
        have N:=hid (show(tq F E.c (adv D)).bind (fun d s1=>lL F p tx g1 (acc++[d]) E.c s1)=res by rw[<-HE.out,gt];rfl);clear HE gt;obtain⟨A4,c4,gq,_⟩:=g7.form;subst gq;obtain⟨x0,x1,x2,x3,y0,y1,y2,y3⟩:=ab g2;have gs:=g2.lt;cases hP:tq F E.c (adv D)with
        |out=>exact absurd N.out.symm (by rw[hP];exact M.out)
        | ok n2 s3=>
         have h3:Hid (lL F p tx g1 (acc++[n2]) E.c s3=res):=hid (by rw[<-N.out,hP];rfl);have HC:=hid (fun W(hr:aU E W (adv D))=>Lw E F hF W (adv D) hr (by rw[hP];exact nofun));rw[hP]at HC;clear N hP;go_wp2_with fail;(have hc:acc.length<=1000000:=by omega);(have he:E.R<w.heap.size+1:=by omega);(have hy:w.heap.size+1<=wc.heap.size:=by omega);go_region_law (first
          |(refine un (by rfl) (.tmp 43) (.tmp 46) (by rfl) E s3 (w.heap.size+1) wc.heap.size (fun b=>b=L) w w10 (.slice A4 acc.length c4) acc n2 A7 c7 (by rfl) (by rfl) hv hk (jZ _) he hy g9 (fun b hb=>by rw[hb];exact gs) (fun g hg=>(g7.lt g hg).2) hc h2 ?_;intro g c w11 J;have gn:an w11 L 24 #[.int .i64 1,.string tx,.slice A4 acc.length c4,.int .i64 p]:=(J.old L gi (.inl rfl)).trans gd;obtain⟨v0,v1,v2,v3,f0,f1,f2,f3⟩:=ab gn)
          |(go_simp;(go_at_call 67);refine(HC.out _ hf.drew.rd).mono ?_;rintro e w10⟨⟨v,rfl,g8⟩,I⟩;obtain⟨A7,c7,rfl,h2⟩:=g8.toC;have gd:=g2.drew.grown I.gr;have gp:=h1.drew.grown I.gr;have hv:=(g7.kept ((ar.refl _ _).drew)).grown I.gr he;have hk:=hf.drew.trans I;have g9:wc.heap.size<=w10.heap.size:=I.gr.size;have gi:=gd.lt;obtain⟨z0,z1,z2,z3,_,_,_,_⟩:=ab gd))
         (all_goals go_wp2_with fail);all_goals
          go_roundg g1
          case measure=>omega
          case rel=>
           refine⟨acc++[n2],s3,_,by simpa using gn.set_ 2 (.slice (some ⟨g,0,none⟩) (acc.length+1) c),?_,?_,by rw[gL];simp;omega,h3.out,?_⟩
           ·exact J.own.kept ((ar.refl _ _).setCell (fun hX=>hX.2 rfl) _)
           ·exact an.far (show an w11 w.heap.size 24 bP from(J.old w.heap.size (by have:=gp.lt;omega) (.inr (by omega))).trans gp) (p:=⟨L,2,none⟩) (by show w.heap.size≠L;omega) _
           ·exact J.mov.own (p:=⟨L,2,none⟩) (by show w.heap.size<=L;omega) (by show E.R<L;omega) _
theorem Ly(p q r:Addr)(w:World):
  CallsD prog 59 #[.pointer (some p),.pointer (some q),.pointer (some r)] .returning w fun e u' w'=>e=.returned (.tuple #[])/\u'=.returning/\w'=w:=by
 refine callsD_of_wpS func59 rfl fun c₀ cs D=>?_;apply wpS_seq;apply wpS_region;simp[wpOpsS,go_sem,recoverD,D,ntmps59,Exit.thenS];apply wpS_seq;apply wpS_region;simp[wpOpsS,go_sem,Exit.thenS];refine wpS_cond (t:=false) (by simp[Act.eval,Array.replicate]) ?_;simp only[jC,kI];refine wpS_of_wp (wp_skip ?_);cases c₀
 simp_all[bodyPostS,results,results59]
theorem OX(v:Value)(w:World):(Instr.typeAssert (.iface 73 v) 20 73 true).run prog w=.ok (.tuple #[v,.bool true]) w:=by kernel_rfl
attribute [local go_sem] OX
theorem iq{w:World}{T:Nat}{t:TypeId}{a b c:Value}(h:an w T t #[a,b,c]):w.cell? ⟨T,1,none⟩=some b/\w.cell? ⟨T,2,none⟩=some c:=
 ⟨(h.cell 1).trans rfl,(h.cell 2).trans rfl⟩
theorem GK(E:cy)(F:iE)(hF:pw E F)(hP:eC E (lD F) 138):eC E (iZ F) 92:=by
 intro w s h hno;generalize O:iZ F E.c s=res at *;have gt:=hid hno;have gg:=h.lt;have J:=hid (show(if aS E.c s ⟨#[45]⟩||aS E.c s ⟨#[33]⟩then(F.unary E.c (adv s)).bind fun x s1=>.ok (.mk 19 (ay E.c s.at_).text [x] (ay E.c s.at_).pos) s1 else lD F E.c s)=res from O);clear O hno;(go_enter func92,ntmps92);go_wp2_with fail;refine(b8 E s _ (h.alloc _)).mono ?_;unfold iI;rintro e w1⟨rfl,gm⟩;have g6:=(((cN.refl h).alloc _).step gm).moved;have g8:=(an.new w 24 bP).below gm (by simp);(have hj:w.heap.size+1<=w1.heap.size:=by have:=gm.size;simp at this;omega);clear gm;generalize ay E.c s.at_=tk at *;have gp:=an.new w1 43 #[tk.kind,tk.text,tk.pos];have gs:=g8.alloc (.cells #[tk.kind,tk.text,tk.pos] 43);have gd:=g6.alloc (.cells #[tk.kind,tk.text,tk.pos] 43);(have hi:w1.heap.size+1<=(w1.alloc (.cells #[tk.kind,tk.text,tk.pos] 43)).heap.size:=by simp);(go_upto_region 2 with fail);generalize hTT:w1.heap.size=T at *;change Code.wp _ _ _ _ (w1.alloc (.cells #[tk.kind,tk.text,tk.pos] 43));generalize w1.alloc (.cells #[tk.kind,tk.text,tk.pos] 43)=w2 at *;(have U:T≠w.heap.size:=by omega);(have gn:T≠E.R:=by omega);clear hTT g8 g6;go_wp2_with fail;cases hA:aS E.c s ⟨#[45]⟩with
 | true=>
  have HE:=hid (show(F.unary E.c (adv s)).bind (fun x s1=>.ok (.mk 19 tk.text [x] tk.pos) s1)=res by rw[<-J.out,gF (by rw[hA];rfl)]);refine(bB E s _ _ gd.rd hA).mono ?_;rintro e w7⟨rfl,I⟩;have ga:=gp.grown I.gr (fun e=>gn (by injection e));have gk:=gs.grown I.gr;have gi:=gd.trans I;have hc:=I.gr.size;clear J hA gp gs gd I;have s7:=iq ga;have gw:=iq ga.drew;go_wp2_with fail;cases hQ:F.unary E.c (adv s)with
  |out=>exact absurd HE.out.symm (by rw[hQ];exact gt.out)
  | ok n8 s8=>
   have HF:Hid (res=.ok (.mk 19 tk.text [n8] tk.pos) s8):=hid (by rw[<-HE.out,hQ];rfl);have HC:=hid (fun W(hr:aU E W (adv s))=>hF.unary W (adv s) hr (by rw[hQ];exact nofun));rw[hQ]at HC;clear HE hQ;go_region_held3 (fun w'=>w'.cell? ⟨T,1,none⟩=some (.string tk.text)/\w'.cell? ⟨T,2,none⟩=some (.int .i64 tk.pos))
    (first|with_reducible exact s9 _ _ _ _|with_reducible exact gu|with_reducible exact gv _|with_reducible exact s8|with_reducible exact gw|with_reducible exact s7)
    (first
     |(go_at_call 92;refine(HC.out _ gi.drew.rd).mono ?_;rintro e w8⟨⟨v,rfl,hv⟩,D⟩;obtain⟨An,cn,rfl,gx⟩:=hv.toC;have N:=ga.drew.grown D.gr (fun e=>gn (by injection e));have s8:=iq N;have gv:=fun o:Obj=>iq (N.alloc o))
     |(go_at_call 64;refine(aQ _ _ _ _ _ ⟨_,_,_,rfl⟩).mono ?_;rintro e w9⟨rfl,M⟩;have gh:=(N.alloc _).below M (by have:=N.lt;simp;omega);have gu:=iq gh;have s9:=fun a b c d:Value=>iq ((((gh.far (p:=⟨w,0,none⟩) (by exact U) a).far (p:=⟨w,1,none⟩) (by exact U) b).far (p:=⟨w,2,none⟩) (by exact U) c).far (p:=⟨w,3,none⟩) (by exact U) d);have gj:=((gk.drew.grown D.gr).alloc _).below M (by have:=(gk.drew.grown D.gr).lt;simp;omega);obtain⟨g0,g1,g2,g3,k0,k1,k2,k3⟩:=ab gj))
   (all_goals go_wp2_with fail);all_goals have ha:w7.heap.size<=w8.heap.size:=D.gr.size;have g9:w7.drew.heap.size=w7.heap.size:=rfl;have hV:=af.make 1 rfl (ag.one (gx.mono (Y:=fun b=>w.heap.size+1<=b) fun b hb _=>by omega)) 19 tk.text tk.pos M;refine aC HF.out hV (((gi.drew.trans D).alloc _).step M) gj (gA _) gg ?_ rfl (by rfl) rfl;rintro b(⟨hb,_⟩|rfl)<;>constructor<;>omega
 | false=>
  refine(cc E s _ _ gd.rd hA).mono ?_;rintro e w3⟨rfl,ge⟩;have g4:=gp.bl ge.bel;have gq:=gs.bl ge.bel;have gb:=gd.trans ge.moved;have hh:=ge.bel.size;clear gp gs gd ge;go_wp2_with fail;cases hB:aS E.c s ⟨#[33]⟩with
  | true=>
   have HE:=hid (show(F.unary E.c (adv s)).bind (fun x s1=>.ok (.mk 19 tk.text [x] tk.pos) s1)=res by rw[<-J.out,gF (by rw[hA,hB];rfl)]);refine(bB E s _ _ gb.rd hB).mono ?_;rintro e w7⟨rfl,I⟩;have ga:=g4.grown I.gr (fun e=>gn (by injection e));have gk:=gq.grown I.gr;have gi:=gb.trans I;have hc:=I.gr.size;clear J hA hB g4 gq gb I;have s7:=iq ga;have gw:=iq ga.drew;go_wp2_with fail;cases hQ:F.unary E.c (adv s)with
   |out=>exact absurd HE.out.symm (by rw[hQ];exact gt.out)
   | ok n8 s8=>
    have HF:Hid (res=.ok (.mk 19 tk.text [n8] tk.pos) s8):=hid (by rw[<-HE.out,hQ];rfl);have HC:=hid (fun W(hr:aU E W (adv s))=>hF.unary W (adv s) hr (by rw[hQ];exact nofun));rw[hQ]at HC;clear HE hQ;go_region_held3 (fun w'=>w'.cell? ⟨T,1,none⟩=some (.string tk.text)/\w'.cell? ⟨T,2,none⟩=some (.int .i64 tk.pos))
     (first|with_reducible exact s9 _ _ _ _|with_reducible exact gu|with_reducible exact gv _|with_reducible exact s8|with_reducible exact gw|with_reducible exact s7)
     (first
      |(go_at_call 92;refine(HC.out _ gi.drew.rd).mono ?_;rintro e w8⟨⟨v,rfl,hv⟩,D⟩;obtain⟨An,cn,rfl,gx⟩:=hv.toC;have N:=ga.drew.grown D.gr (fun e=>gn (by injection e));have s8:=iq N;have gv:=fun o:Obj=>iq (N.alloc o))
      |(go_at_call 64;refine(aQ _ _ _ _ _ ⟨_,_,_,rfl⟩).mono ?_;rintro e w9⟨rfl,M⟩;have gh:=(N.alloc _).below M (by have:=N.lt;simp;omega);have gu:=iq gh;have s9:=fun a b c d:Value=>iq ((((gh.far (p:=⟨w,0,none⟩) (by exact U) a).far (p:=⟨w,1,none⟩) (by exact U) b).far (p:=⟨w,2,none⟩) (by exact U) c).far (p:=⟨w,3,none⟩) (by exact U) d);have gj:=((gk.drew.grown D.gr).alloc _).below M (by have:=(gk.drew.grown D.gr).lt;simp;omega);obtain⟨g0,g1,g2,g3,k0,k1,k2,k3⟩:=ab gj))
    (all_goals go_wp2_with fail);all_goals have ha:w7.heap.size<=w8.heap.size:=D.gr.size;have g9:w7.drew.heap.size=w7.heap.size:=rfl;have hV:=af.make 1 rfl (ag.one (gx.mono (Y:=fun b=>w.heap.size+1<=b) fun b hb _=>by omega)) 19 tk.text tk.pos M;refine aC HF.out hV (((gi.drew.trans D).alloc _).step M) gj (gA _) gg ?_ rfl (by rfl) rfl;rintro b(⟨hb,_⟩|rfl)<;>constructor<;>omega
  |false=>
   have HE:Hid (lD F E.c s=res):=hid (by rw[<-J.out,d5 (by rw[hA,hB];decide)]);refine(cc E s _ _ gb.rd hB).mono ?_;rintro e w4⟨rfl,gl⟩;have hf:=gq.bl gl.bel;have g5:=gb.trans gl.moved;have hg:=gl.bel.size;clear J hA hB gq gb gl;go_wp2_with fail;refine(hP _ s g5.rd (by rw[HE.out];exact gt.out)).mono ?_;rw[HE.out];cases O:res with
   |out=>exact absurd O gt.out
   |ok n5 s5=>rintro e w5⟨⟨v5,rfl,gy⟩,gz⟩;obtain⟨A5,c5,rfl,hk⟩:=gy.toC;have g7:=hf.grown gz.gr;have he:=g5.trans gz;obtain⟨d0,d1,d2,d3,e0,e1,e2,e3⟩:=ab g7;go_wp2_with fail;refine aC (by first|rfl|exact O) gy he g7 (gA _) gg ?_ rfl (by rfl) rfl;intro b hb;constructor<;>omega
end
section
open Go.RowKit Go.Lib Go.Proofs
theorem yy{w:World}{g:Nat}{t:TypeId}{a:Value}(h:an w g t #[a]):w.cell? ⟨g,0,none⟩=some a:=(h.cell 0).trans rfl
theorem yz(part:R Nd)(en:ByteArray)(c:Cx):∀(g:Nat)(acc:List Nd)(s:St)(l:List Nd)(s':St),a6 part en g acc c s=.ok l s'->l.length<=acc.length+g
 |0,_,_,_,_,h=>by simp[a6]at h
 | g+1,acc,s,l,s',h=>by
  simp only[a6]at h;split at h
  ·injection h with D _;subst D;omega
  ·cases I:part c s with
   |out=>rw[I]at h;cases h
   | ok n s1=>
    rw[I]at h;simp only[cC.bind_ok]at h;split at h
    ·injection h with D _;subst D;simp
    ·cases J:ci ⟨#[44]⟩ c s1 with
     |out=>rw[J]at h;cases h
     |ok u s2=>rw[J]at h;have:=yz part en c g (acc++[n]) s2 l s' h;simp at this;omega
theorem oU{part:R Nd}{en:ByteArray}{c:Cx}{g:Nat}{s:St}{l:List Nd}{s':St}(h:ct (a6 part en g []) c s=.ok l s'):l.length<=g:=by
 unfold ct at h;cases D:a6 part en g [] c { s with head:=false }with
 |out=>rw[D]at h;cases h
 |ok l1 s1=>rw[D]at h;simp only[cC.bind_ok]at h;injection h with I _;subst I;have:=yz part en c g [] _ _ _ D;simpa using this
theorem nu{X:Nat->Prop}{w:World}{size n:Nat}{A:Option Addr}{xs:List Value}(h:eW X w size A n xs)(hs:0<size):bZ w w.heap.size size A n xs:=by refine⟨h.1,fun D=>?_⟩;obtain⟨b,off,rfl,_,I⟩:=h.2 D;(have J:0<xs.length:=by rw[h.1];exact Nat.mul_pos D hs);refine⟨_,rfl,jB w _ (I 0 xs[0] (gN J)),fun j u hu=>?_⟩;rw[oI];exact I j u hu
theorem iB{X:Nat->Prop}{w:World}:∀{l:List Nd}{xs:List Value},ag X w l xs->∀u∈xs,u.oneCell'=true
 |[],xs,h=>by unfold ag at h;subst h;simp
 |n::l,xs,h=>by
  unfold ag at h;obtain⟨ys,zs,rfl,J,I⟩:=h;obtain⟨A,cap,_,rfl,_⟩:=J.toV;intro u D;rcases List.mem_append.1 D with D|D
  ·exact rI n A cap u D
  ·exact iB I u D
theorem nV{w:World}{K B:Nat}{a b c d:Value}(hb:an w K 24 #[a,b,c,d])(hB:B<=K):w.ownsRow B 24 4 (.slice (some ⟨K,0,none⟩) 1 1) 1 [a,b,c,d]:=
 ⟨rfl,.inr ⟨K,1,#[a,b,c,d],rfl,hB,hb,gA _,by unfold maxLen;omega,rfl,rfl⟩⟩
theorem rj{X:Nat->Prop}{w:World}{B n:Nat}{v:Value}{l:List Nd}{xs:List Value}(h:w.ownsRow B 24 4 v n xs)(N:l.length=n)(hX:∀g,v.ownBlock=some g->X g)(I:ag X w l xs):cS X w v l:=by
 subst N;rcases h.2 with⟨rfl,h0⟩|⟨g,cap,cur,rfl,hg,U,D,_,M,J⟩
 ·exact⟨none,0,xs,by rw[h0],by omega,⟨h.1,fun h=>by omega⟩,I⟩
 ·refine⟨_,cap,xs,rfl,D,⟨h.1,fun _=>⟨g,0,rfl,hX g rfl,fun j u hu=>?_⟩⟩,I⟩;(have O:j<l.length*4:=by have:=(List.getElem?_eq_some_iff.1 hu).1;rw[h.1]at this;exact this);rw[kS];unfold World.cell?;rw[U];simp only[qo,jC,kI];rw[<-J,vj O]at hu;rw[<-hu];simp
theorem oV{w:World}{B n:Nat}{t:TypeId}{size:Nat}{v:Value}{xs:List Value}(h:w.ownsRow B t size v n xs):∃A c,v=.slice A n c/\n<=c:=by
 rcases h.2 with⟨rfl,I⟩|⟨g,cap,cur,rfl,_,_,D,_⟩
 ·exact⟨none,0,by rw[I],by omega⟩
 ·exact⟨_,cap,rfl,D⟩
theorem aw.grownNew{E:cy}{s:St}{w w1 w2:World}{K:Nat}(h:aw E s w w1)(D:w1.grownBy w2 (some K))(J:w.heap.size<=K)(I:E.R<K):aw E s w w2:=
 ⟨h.rd.grown D (fun g e=>by injection e with e;omega),D.os.trans h.gr.os,D.tape.trans h.gr.tape,D.output.trans h.gr.output,kC h.gr.size D.size,fun k hk hne=>(D.block k (kH hk h.gr.size) (fun e=>by injection e with e;omega)).trans (h.gr.block k hk hne)⟩
theorem Lq{E:cy}{sA s2:St}{w0 w D N w8:World}{K O G:Nat}{x:Nd}{l:List Nd}{A:Option Addr}{cp:Nat}{A8:Option Addr}{c8:Nat}{ys:List Value}
  (gh:aw E sA w D)(hC:bo (fun b=>w0.heap.size<=b/\b<w.heap.size) D x [.int .i64 x.kind,.string x.text,.slice A x.kids.length cp,.int .i64 x.pos])
  (gn:w0.heap.size<=w.heap.size)(gj:E.R<w0.heap.size)(ga:w.heap.size<=K)(gu:K<D.heap.size)(gq:O<D.heap.size)(h:w.heap.size<=O)(gs:K≠O)(gv:G<D.heap.size)(gk:w.heap.size<=G)(gt:K≠G)(gp:O≠G)
  (M:aw E s2 D.drew N)(gd:ag (fun b=>D.drew.heap.size<=b) N l ys)
  (J:w8.ownsRow K 24 4 (.slice A8 (1+l.length) c8) (1+l.length) ([.int .i64 x.kind,.string x.text,.slice A x.kids.length cp,.int .i64 x.pos]++ys))(I:N.grownBy w8 (some K))
  (U:(Value.slice A8 (1+l.length) c8).ownBlock=some K\/(Value.slice A8 (1+l.length) c8).ownBlock=some N.heap.size)(kind:Int)(t:ByteArray)(pos:Int)(o:Nat)(u:Value):
  af (fun b=>w0.heap.size<=b/\b≠G/\b≠O) (w8.setCell ⟨O,o,none⟩ u) (.agg #[kind,t,.slice A8 (1+l.length) c8,pos]) (.mk kind t (x::l) pos)/\aw E s2 w (w8.setCell ⟨O,o,none⟩ u):=by
 have hd:D.drew.heap.size=D.heap.size:=rfl;have gm:D.heap.size<=N.heap.size:=M.gr.size;have gl:=I.size;have gi:=(((hC.keep (w:=D) (w':=D.drew) (fun _ _ _=>rfl)).keep (w':=N) (ar.of_grown (X:=fun b=>w0.heap.size<=b/\b<w.heap.size) M.gr).block).keep (w':=w8) (ar.of_grown (X:=fun b=>w0.heap.size<=b/\b<w.heap.size) I).block).mono (Y:=fun b=>w0.heap.size<=b/\b≠G/\b≠O) (fun b hb _=>⟨hb.1,by omega,by omega⟩);have gb:=(gd.keep (w':=w8) (ar.of_grown (X:=fun b=>D.drew.heap.size<=b) I).block).mono (Y:=fun b=>w0.heap.size<=b/\b≠G/\b≠O) (fun b hb _=>⟨by omega,by omega,by omega⟩);have gg:=rj (X:=fun b=>w0.heap.size<=b/\b≠G/\b≠O) (l:=x::l) J (by simp;omega) (fun g hg=>by
  rcases U with e|e<;>rw[hg]at e<;>injection e with e
  ·exact⟨by omega,by omega,by omega⟩
  ·exact⟨by omega,by omega,by omega⟩) (ag.cons gi gb)
 have ge:=gg.kept (ar.setCell (ar.refl (fun b=>w0.heap.size<=b/\b≠G/\b≠O) w8) (p:=⟨O,o,none⟩) (fun hX=>hX.2.2 rfl) u);refine⟨af.of_slice ge kind t pos,?_⟩;exact((gh.drew.trans M).grownNew I ga (by omega)).own (p:=⟨O,o,none⟩) h (by show E.R<O;omega) u
end
end Go.Proofs.YtiebcdeafofgdaaGreatDoor
