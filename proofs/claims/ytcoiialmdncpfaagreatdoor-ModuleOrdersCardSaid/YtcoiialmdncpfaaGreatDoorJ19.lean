/-
  Parts of the proof: Rdecl Rfile Rcatch RallF Rlev Oframe Place Olight0 Mopen. By an AI agent.
-/
import Derived.Test.YtcoiialmdncpfaaGreatDoorJ08
import Derived.Test.YtcoiialmdncpfaaGreatDoorJ17
import Derived.Test.YtcoiialmdncpfaaGreatDoorJ05
import Derived.Test.YtcoiialmdncpfaaGreatDoorJ07
import Derived.Test.YtcoiialmdncpfaaGreatDoorJ18
import Derived.Test.YtcoiialmdncpfaaGreatDoorProg
import Derived.Test.YtcoiialmdncpfaaGreatDoorJ00
import Derived.Deep.RegionHeld2
import Derived.BigQuiet
import Derived.Defers
import Derived.Recover
import Derived.SliceStrings
import Derived.Stop.LaidErr
import Derived.Lib.LaidTab
import Derived.WalkKit
import Derived.WalkLawsBesides
import Derived.WalkSpells
import Derived.Lib.Hide
import Derived.Lib.Walk
import Derived.Deep.LoopGhost
import Derived.Lib.OthersKept
import Derived.Laws.BytesArg
import Derived.ChangeSlices
open Go.Proofs.Tryz
set_option maxRecDepth 100000
set_option maxHeartbeats 8000000
namespace Go.Proofs.YtcoiialmdncpfaaGreatDoor
section
open Go.RowKit Go.Lib Go.Proofs
attribute [local go_sem ↓] Go.wp_at_zero Go.wp_at_succ
attribute [local go_sem] aK aL aM aZ a6 a7 a8
abbrev Pg(P Q:Nat)(p0 p1 p2 p3 q0 q1 q2 q3:Value)(w:World):Prop:=
 w.cell? ⟨P,0,none⟩=some p0/\w.cell? ⟨P,1,none⟩=some p1/\w.cell? ⟨P,2,none⟩=some p2/\w.cell? ⟨P,3,none⟩=some p3 /\
 w.cell? ⟨Q,0,none⟩=some q0/\w.cell? ⟨Q,1,none⟩=some q1/\w.cell? ⟨Q,2,none⟩=some q2/\w.cell? ⟨Q,3,none⟩=some q3
theorem mK{w:World}{P Q:Nat}{t t':TypeId}{p0 p1 p2 p3 q0 q1 q2 q3:Value}(I:aa w P t #[p0,p1,p2,p3])(D:aa w Q t' #[q0,q1,q2,q3]):Pg P Q p0 p1 p2 p3 q0 q1 q2 q3 w:=
 ⟨by simpa using I.cell 0,by simpa using I.cell 1,by simpa using I.cell 2,by simpa using I.cell 3,by simpa using D.cell 0,by simpa using D.cell 1,by simpa using D.cell 2,by simpa using D.cell 3⟩
theorem CJ(E:bC)(F:eQ)(hF:mC E F):dp E (nY F) 95:=by
 intro w s h hno;generalize D:nY F E.c s=res at *;have M:=hid D;have ge:=hid hno;have gl:=h.lt;clear D hno;(go_enter func95,ntmps95);go_wp2_with fail;refine(bh E s _ (h.alloc _)).mono ?_;unfold eR;rintro e w1⟨rfl,hc⟩;have gg:=((bX.refl h).alloc _).step hc;have gp:=(aa.new w 41 bg).below hc (by simp);have g9:=gp.lt;clear hc;go_wp2_with fail;cases hA:aR E.c s ⟨#[102,117,110,99]⟩with
 | true=>
  have HE:=hid (show(bV E.c (am s)).bind (fun x s1=>(d6 F E.c s1).bind fun ps s2=>(nX F (ar E.c s) E.c s2).bind fun sg s3=>(be F E.c s3).bind fun b s4=>.ok (.mk 2 x [ps,sg,b] (ar E.c s)) s4)=res by rw[<-M.out,nY,gL hA]);refine(aS E s _ w1 gg.rd hA).mono ?_;rintro e w2⟨rfl,gw⟩;have gb:=gp.grown gw.gr;have J:=gg.moved.trans gw;have hw:=gw.gr.size;clear M hA gp gg gw;go_wp2_with fail;by_cases hN:(aj E.c (am s).at_).kind=1
  case neg=>refine(lj E (am s) _ J.rd hN).mono ?_;rintro e w6⟨rfl,h1⟩;unfold ag;exact⟨rfl,af (by rw[<-HE.out,bV,gE hN];rfl) J.gr (ac _ h1)⟩
  have g8:=hid (show(d6 F E.c (am (am s))).bind (fun ps s2=>(nX F (ar E.c s) E.c s2).bind fun sg s3=>(be F E.c s3).bind fun b s4=>.ok (.mk 2 (aj E.c (am s).at_).text [ps,sg,b] (ar E.c s)) s4)=res by rw[<-HE.out,bV,gL hN];rfl);refine(fK E (am s) _ J.rd hN).mono ?_;rintro e w3⟨rfl,O⟩;have gi:=gb.grown O.gr;have I:=J.trans O;have hg:=O.gr.size;clear HE hN gb J O;generalize(aj E.c (am s).at_).text=tx at *;generalize hpp:ar E.c s=pp at *;rw[show(aj E.c s.at_).pos=pp from hpp];clear hpp;go_wp2_with fail;cases hP:d6 F E.c (am (am s))with
  |out=>exact absurd g8.out.symm (by rw[hP];exact ge.out)
  |fail q=>refine(lZ E F hF _ (am (am s)) I.rd (by rw[hP];exact nofun)).mono ?_;rw[hP];rintro e w4⟨rfl,h0⟩;unfold ag;exact⟨rfl,af (by rw[<-g8.out,hP];rfl) I.gr h0⟩
  | ok ps s2=>
   have g7:=hid (show(nX F pp E.c s2).bind (fun sg s3=>(be F E.c s3).bind fun b s4=>.ok (.mk 2 tx [ps,sg,b] pp) s4)=res by rw[<-g8.out,hP];rfl);refine(lZ E F hF _ (am (am s)) I.rd (by rw[hP];exact nofun)).mono ?_;rw[hP];rintro e w4⟨⟨v,rfl,hv⟩,gv⟩;obtain⟨A4,c4,rfl,g6⟩:=hv.toC;have g6:=g6.mono (Y:=fun b=>w.heap.size+1<=b) (fun b hb _=>by omega);have hq:=gi.grown gv.gr;have hm:=I.trans gv;have jd:=gv.gr.size;clear hP g8 I gi gv hv;go_wp2_with fail;have hk:=aa.new w4 41 (nv ps A4 c4);have ga:=hq.alloc (.cells (nv ps A4 c4) 41);have y:=hm.alloc (.cells (nv ps A4 c4) 41);have gd:=g6.keep (w':=w4.alloc (.cells (nv ps A4 c4) 41)) (fun b _ hlt=>gS w4 _ b hlt);(have jc:w4.heap.size+1=(w4.alloc (.cells (nv ps A4 c4) 41)).heap.size:=by simp);generalize hPP:w4.heap.size=P at *;generalize w4.alloc (.cells (nv ps A4 c4) 41)=w5 at *;clear hq hm g6 hPP;cases hS:nX F pp E.c s2 with
   |out=>exact absurd g7.out.symm (by rw[hS];exact ge.out)
   |fail q=>refine(iB E F hF pp _ s2 y.rd (by rw[hS];exact nofun)).mono ?_;rw[hS];rintro e w6⟨rfl,hz⟩;unfold ag;exact⟨rfl,af (by rw[<-g7.out,hS];rfl) y.gr hz⟩
   | ok sg s3=>
    have gs:=hid (show(be F E.c s3).bind (fun b s4=>.ok (.mk 2 tx [ps,sg,b] pp) s4)=res by rw[<-g7.out,hS];rfl);refine(iB E F hF pp _ s2 y.rd (by rw[hS];exact nofun)).mono ?_;rw[hS];rintro e w6⟨⟨v,rfl,hv⟩,gh⟩;obtain⟨A6,c6,rfl,gq⟩:=hv.toC;have gq:=gq.mono (Y:=fun b=>w.heap.size+1<=b) (fun b hb _=>by omega);have hp:=ga.grown gh.gr;have hj:=hk.grown gh.gr;have gd:=gd.keep (w':=w6) (ak.of_grown (X:=fun b=>w.heap.size+1<=b) gh.gr).block;have hl:=y.trans gh;have jb:=gh.gr.size;clear hS g7 y ga hk gh hv;go_wp2_with fail;have he:=aa.new w6 41 (nv sg A6 c6);have hf:=hj.alloc (.cells (nv sg A6 c6) 41);have ho:=hp.alloc (.cells (nv sg A6 c6) 41);have g5:=hl.alloc (.cells (nv sg A6 c6) 41);have gq:=gq.keep (w':=w6.alloc (.cells (nv sg A6 c6) 41)) (fun b _ hlt=>gS w6 _ b hlt);have gd:=gd.keep (w':=w6.alloc (.cells (nv sg A6 c6) 41)) (fun b _ hlt=>gS w6 _ b hlt);(have ja:w6.heap.size+1=(w6.alloc (.cells (nv sg A6 c6) 41)).heap.size:=by simp);generalize hQQ:w6.heap.size=Q at *;generalize w6.alloc (.cells (nv sg A6 c6) 41)=w7 at *;clear hp hl hQQ hj;have s7:=mK hf he;have hu:=mK hf.drew he.drew;(have h3:P≠E.R:=by omega);(have h2:Q≠E.R:=by omega);(have gz:w.heap.size≠P:=by omega);(have gx:w.heap.size≠Q:=by omega);cases hB:be F E.c s3 with
    |out=>exact absurd gs.out.symm (by rw[hB];exact ge.out)
    |fail q=>have HC:=hid (fun W(hr:aH E W s3)=>cQ E F hF W s3 hr (by rw[hB];exact nofun));have HF:Hid (res=.fail q):=hid (by rw[<-gs.out,hB];rfl);rw[hB]at HC;clear gs hB;let SS:World->Prop:=fun w'=>w'.cell? ⟨P,0,none⟩=some (.int .i64 ps.kind)/\w'.cell? ⟨P,1,none⟩=some (.string ps.text)/\w'.cell? ⟨P,2,none⟩=some (.slice A4 ps.kids.length c4)/\w'.cell? ⟨P,3,none⟩=some (.int .i64 ps.pos)/\w'.cell? ⟨Q,0,none⟩=some (.int .i64 sg.kind)/\w'.cell? ⟨Q,1,none⟩=some (.string sg.text)/\w'.cell? ⟨Q,2,none⟩=some (.slice A6 sg.kids.length c6)/\w'.cell? ⟨Q,3,none⟩=some (.int .i64 sg.pos);have h7:SS w7.drew:=s7;(refine jS (S:=SS) (by kernel_rfl) h7 ?_;intro gn;refine dF 0 gn ?_;refine dF 1 gn ?_;refine dF 2 gn ?_;refine dF 3 gn ?_;refine dF 4 gn ?_;refine yd 5 fun K hK=>?_;go_simp);refine(HC.out _ g5.drew.rd).mono ?_;rintro e w8⟨rfl,hy⟩;unfold ag;exact⟨rfl,af HF.out g5.drew.gr hy⟩
    | ok b s4=>
     have HC:=hid (fun W(hr:aH E W s3)=>cQ E F hF W s3 hr (by rw[hB];exact nofun));have HF:Hid (res=.ok (.mk 2 tx [ps,sg,b] pp) s4):=hid (by rw[<-gs.out,hB];rfl);rw[hB]at HC;clear gs hB;go_region_held3 (fun w'=>w'.cell? ⟨P,0,none⟩=some (.int .i64 ps.kind)/\w'.cell? ⟨P,1,none⟩=some (.string ps.text)/\w'.cell? ⟨P,2,none⟩=some (.slice A4 ps.kids.length c4)/\w'.cell? ⟨P,3,none⟩=some (.int .i64 ps.pos)/\w'.cell? ⟨Q,0,none⟩=some (.int .i64 sg.kind)/\w'.cell? ⟨Q,1,none⟩=some (.string sg.text)/\w'.cell? ⟨Q,2,none⟩=some (.slice A6 sg.kids.length c6)/\w'.cell? ⟨Q,3,none⟩=some (.int .i64 sg.pos))
      (first|with_reducible exact s9 _ _ _ _|with_reducible exact hs|with_reducible exact ht _|with_reducible exact s8|with_reducible exact hu|with_reducible exact s7)
      (first
       |(go_at_call 143;refine(HC.out _ g5.drew.rd).mono ?_;rintro e w8⟨⟨v,rfl,hv⟩,z⟩;obtain⟨An,cn,rfl,h6⟩:=hv.toC;have g4:=hf.drew.grown z.gr (fun e=>h3 (by injection e));have gy:=he.drew.grown z.gr (fun e=>h2 (by injection e));have s8:=mK g4 gy;have ht:=fun o:Obj=>mK (g4.alloc o) (gy.alloc o))
       |(go_at_call 91;refine(aI _ _ _ _ _ ⟨_,_,_,rfl⟩).mono ?_;rintro e w9⟨rfl,gm⟩;have hi:=(g4.alloc _).below gm (by have:=g4.lt;simp;omega);have hh:=(gy.alloc _).below gm (by have:=gy.lt;simp;omega);have hs:=mK hi hh;have s9:=fun a b c d:Value=>mK ((((hi.far (p:=⟨w,0,none⟩) (by exact gz.symm) a).far (p:=⟨w,1,none⟩) (by exact gz.symm) b).far (p:=⟨w,2,none⟩) (by exact gz.symm) c).far (p:=⟨w,3,none⟩) (by exact gz.symm) d) ((((hh.far (p:=⟨w,0,none⟩) (by exact gx.symm) a).far (p:=⟨w,1,none⟩) (by exact gx.symm) b).far (p:=⟨w,2,none⟩) (by exact gx.symm) c).far (p:=⟨w,3,none⟩) (by exact gx.symm) d);have hn:=((ho.drew.grown z.gr).alloc _).below gm (by have:=(ho.drew.grown z.gr).lt;simp;omega);obtain⟨g0,g1,g2,g3,k0,k1,k2,k3⟩:=ah hn))
     (all_goals go_wp2_with fail);have h9:w7.heap.size<=w8.heap.size:=z.gr.size;have h5:=(gd.keep (w:=w7) (w':=w7.drew) (fun _ _ _=>rfl)).keep (w':=w8) (ak.of_grown (X:=fun b=>w.heap.size+1<=b) z.gr).block;have h4:=(gq.keep (w:=w7) (w':=w7.drew) (fun _ _ _=>rfl)).keep (w':=w8) (ak.of_grown (X:=fun b=>w.heap.size+1<=b) z.gr).block;have h8:w7.drew.heap.size=w7.heap.size:=rfl;have hV:=aq.make 3 rfl (ae.cons h5 (ae.cons h4 (ae.one (h6.mono (Y:=fun b=>w.heap.size+1<=b) fun b hb _=>by omega)))) 2 tx pp gm;refine av HF.out hV (((g5.drew.trans z).alloc _).step gm) hn (gA _) gl ?_ rfl (by rfl) rfl;rintro b(⟨hb,_⟩|rfl)<;>constructor<;>omega
 | false=>
  refine(aW E s _ w1 gg.rd hA).mono ?_;rintro e w2⟨rfl,gu⟩;have gb:=gp.below gu.bel g9;have J:=gg.moved.trans gu.moved;have hw:=gu.bel.size;clear gp gg gu;go_wp2_with fail;cases hT:aR E.c s ⟨#[116,121,112,101]⟩with
  |true=>
   have HE:Hid (ig F (ar E.c s) E.c (am s)=res):=hid (by rw[<-M.out,nY,gE (by rw[hA];decide),gL hT]);refine(aS E s _ w2 J.rd hT).mono ?_;rintro e w3⟨rfl,O⟩;have gi:=gb.grown O.gr;have I:=J.trans O;have hg:=O.gr.size;clear M hA hT gb J O;go_wp2_with fail;refine(Bd E F hF (ar E.c s) _ (am s) I.rd (by rw[HE.out];exact ge.out)).mono ?_;rw[HE.out];cases D:res with
   |out=>exact absurd D ge.out
   |fail p=>rintro e w5⟨rfl,ha⟩;unfold ag;exact⟨rfl,af (by first|rfl|exact D) I.gr ha⟩
   |ok n5 s5=>rintro e w5⟨⟨v5,rfl,gj⟩,gk⟩;obtain⟨A5,c5,rfl,gd⟩:=gj.toC;have ga:=gi.grown gk.gr;have y:=I.trans gk;obtain⟨d0,d1,d2,d3,e0,e1,e2,e3⟩:=ah ga;go_wp2_with fail;refine av (by first|rfl|exact D) gj y ga (gA _) gl ?_ rfl (by rfl) rfl;intro b hb;constructor<;>omega
  |false=>
   have HE:Hid (dT F E.c s=res):=hid (by rw[<-M.out,nY,gE (by rw[hA];decide),gE (by rw[hT];decide)]);refine(aW E s _ w2 J.rd hT).mono ?_;rintro e w3⟨rfl,gt⟩;have gi:=gb.bl gt.bel;have I:=J.trans gt.moved;have hg:=gt.bel.size;clear M hA hT gb J gt;go_wp2_with fail;refine(rk E F hF _ s I.rd (by rw[HE.out];exact ge.out)).mono ?_;rw[HE.out];cases D:res with
   |out=>exact absurd D ge.out
   |fail p=>rintro e w5⟨rfl,ha⟩;unfold ag;exact⟨rfl,af (by first|rfl|exact D) I.gr ha⟩
   |ok n5 s5=>rintro e w5⟨⟨v5,rfl,gj⟩,gk⟩;obtain⟨A5,c5,rfl,gd⟩:=gj.toC;have ga:=gi.grown gk.gr;have y:=I.trans gk;obtain⟨d0,d1,d2,d3,e0,e1,e2,e3⟩:=ah ga;go_wp2_with fail;refine av (by first|rfl|exact D) gj y ga (gA _) gl ?_ rfl (by rfl) rfl;intro b hb;constructor<;>omega
theorem IZ (E:bC)(F:eQ)(hF:mC E F):dp E (fu F) 51:=by
 intro w s h hno;generalize hres:fu F E.c s=res at *;have gl:=hid hres;have hw:=hid hno;have he:=h.lt;have hm:=(au.refl h).alloc (.cells bg 41);clear hres hno;(go_enter func51,ntmps51);go_wp2_with fail;refine(bh E s _ (h.alloc _)).mono ?_;unfold eR;rintro e w1⟨rfl,g0⟩;have g7:=(aa.new w 41 bg).below g0 (by simp);have gi:=hm.step g0;have h1:=g7.lt;clear g0 hm;go_wp2_with fail;cases hA:aR E.c s ⟨#[112,97,99,107,97,103,101]⟩with
 |false=>refine(dN E s _ _ gi.rd hA).mono ?_;rintro e w4⟨rfl,gd⟩;unfold ag;exact⟨rfl,af (by rw[<-gl.out,fu,need];simp[hA]) gi.gr (ac _ gd)⟩
 | true=>
  have HE:=hid (show(bV E.c (am s)).bind (fun x D=>fI F (ar E.c s) x F.g [] E.c D)=res by rw[<-gl.out,fu,need];simp only[hA,kS,d5.bind_ok]);refine(cW E s _ _ gi.rd hA).mono ?_;rintro e w2⟨rfl,gn⟩;have ht:=g7.grown gn.gr;have gh:=gi.trans gn;have jb:=gn.gr.size;clear gl hA g7 gi gn;go_wp2_with fail;by_cases hN:(aj E.c (am s).at_).kind=1
  case neg=>refine(lj E (am s) _ gh.rd hN).mono ?_;rintro e w6⟨rfl,h3⟩;unfold ag;exact⟨rfl,af (by rw[<-HE.out,bV,gE hN];rfl) gh.gr (ac _ h3)⟩
  have M:Hid (fI F (ar E.c s) (aj E.c (am s).at_).text F.g [] E.c (am (am s))=res):=hid (by rw[<-HE.out,bV,gL hN];rfl);refine(fK E (am s) _ gh.rd hN).mono ?_;rintro e w3⟨rfl,gm⟩;have hs:=ht.grown gm.gr;have hk:=gh.trans gm;have ja:=gm.gr.size;clear HE hN ht gh gm;generalize(aj E.c (am s).at_).text=tx at *;generalize hpp:ar E.c s=p at *;rw[show(aj E.c s.at_).pos=p from hpp];clear hpp;go_wp2_with fail;refine(aI _ _ _ _ _ ⟨_,_,_,rfl⟩).mono ?_;rintro e w4⟨rfl,gd⟩;have g6:=hs.bl gd;have hj:=hk.step gd;have h0:=g6.lt;clear gd hk hs;have ho:=aa.new w4 41 #[.int .i64 1,.string tx,.slice none 0 0,.int .i64 p];have hq:=g6.alloc (.cells #[.int .i64 1,.string tx,.slice none 0 0,.int .i64 p] 41);have hi:=hj.alloc (.cells #[.int .i64 1,.string tx,.slice none 0 0,.int .i64 p] 41);go_wp2_with fail;generalize hL:w4.heap.size=L at *;(have h8:w.heap.size<L:=by omega);generalize w4.alloc (.cells #[.int .i64 1,.string tx,.slice none 0 0,.int .i64 p] 41)=w5 at *;clear g6 hj hL;go_loopg [] F.g (fun g wr=>∃(acc:List Nd)(s':St)(u:Value),aa wr L 41 #[.int .i64 1,.string tx,u,.int .i64 p]/\eS (w.heap.size+1) (fun b=>b=L) wr u acc/\aa wr w.heap.size 41 bg/\acc.length+g<=1000001/\fI F p tx g acc E.c s'=res/\au E s' w wr)
  case atStart=>exact⟨[],am (am s),_,ho,eS.nil _ _ _,hq,by have:=hF.g;simp;omega,M.out,hi⟩
  case round=>
   clear ho hq hi M;obtain⟨acc,D,u,hL,HO,hG,h9,hr,hM⟩:=hrel;have HR:=hid hr;clear hr;cases gk with
   |zero=>exact absurd HR.out.symm (by rw[fI];exact hw.out)
   | succ g1=>
    go_wp2_with fail;refine(fJ E D _ hM.rd).mono ?_;rintro e w6⟨rfl,z⟩;have g5:=hL.grown z.gr;have gq:=hG.grown z.gr;have gs:=HO.grown z.gr (by omega);have J:=hM.trans z;clear hL hG HO hM z;cases gg:dK E.c D with
    |false=>have HF:=hid (show res=.fail (ar E.c D)by rw[<-HR.out,fI];simp only[gg,gX,kK]);rw[show dL E.c D=D by unfold dL;rw[gg];rfl]at J;go_wp2_with fail;refine(dh E D _ J.rd).mono ?_;rintro e w13⟨rfl,ge⟩;unfold ag;exact⟨rfl,af HF.out J.gr (ac _ ge)⟩
    | true=>
     rw[show dL E.c D=am D by unfold dL;rw[gg];rfl]at J;obtain⟨c0,c1,-,-,-,-⟩:=J.rd.cells;cases g8:(((am D).at_:Int)==(E.c.toks.length:Int))with
     |true=>have HF:=hid (show res=.ok (.mk 1 tx acc p) (am D)by have e:(am D).at_=D.at_+1:=rfl;rw[kI]at g8;rw[<-HR.out,fI];simp only[gg,kS];rw[gL (by omega)]);clear HR;obtain⟨A4,c4,gv,_⟩:=gs.form;subst gv;go_wp2_with fail;go_quiet (fail);clear c0 c1;obtain⟨x0,x1,x2,x3,_,_,_,_⟩:=ah (g5.drewN nq);obtain⟨d0,d1,d2,d3,e0,e1,e2,e3⟩:=ah (gq.drewN nq);go_wp2_with fail;refine av HF.out (aq.of_slice (gs.kept ((ak.refl _ _).drewN nq)).values 1 tx p) (J.drewN nq) (gq.drewN nq) (gA _) he ?_ rfl (by rfl) rfl;rintro b⟨hb,_⟩;constructor<;>omega
     | false=>
      have HE:=hid (show(if aR E.c (am D) ⟨#[102,117,110,99]⟩||(aR E.c (am D) ⟨#[116,121,112,101]⟩||aR E.c (am D) ⟨#[118,97,114]⟩)then(nY F E.c (am D)).bind fun d s1=>fI F p tx g1 (acc++[d]) E.c s1 else .fail (ar E.c (am D)))=res by have e:(am D).at_=D.at_+1:=rfl;rw[gD]at g8;rw[<-HR.out,fI];simp only[gg,kS];rw[gE (show ¬ D.at_+1=E.c.toks.length by omega)]);clear HR;go_wp2_with fail;go_quiet (fail);clear c0 c1;have hn:=g5.drewN nq;have hp:=gq.drewN nq;have hu:=gs.kept ((ak.refl _ _).drewN nq);have g3:=J.drewN nq;generalize w6.drewN nq=w7 at *;clear g5 gq gs J g8;generalize hc1:aR E.c (am D) ⟨#[102,117,110,99]⟩=c1 at *;generalize hc2:aR E.c (am D) ⟨#[116,121,112,101]⟩=c2 at *;generalize hc3:aR E.c (am D) ⟨#[118,97,114]⟩=c3 at *;(go_upto_region 7 with fail);go_cut [39] (fun hy wx=>hy=.bool (!(c1||(c2||c3)))/\Below w7 w7 wx)
      case first=>
       have HI:=hid (fun(w':World)(hb:Below w7 w7 w')x=>bL E (am D) x w' (g3.rd.below hb));go_wp2_with fail;refine(HI.out w7 (gC _ _) _).mono ?_;rw[hc1];rintro e wa⟨rfl,gz⟩;cases c1 with
       |true=>go_wp2_with fail;go_meet;exact⟨rfl,gz⟩
       |false=>
        go_wp2_with fail;refine(HI.out wa gz _).mono ?_;rw[hc2];rintro e wb⟨rfl,ga⟩;have ga:=aE gz ga;cases c2 with
        |true=>go_wp2_with fail;go_meet;exact⟨rfl,ga⟩
        |false=>go_wp2_with fail;refine(HI.out wb ga _).mono ?_;rw[hc3];rintro e wd⟨rfl,gy⟩;have gy:=aE ga gy;go_wp2_with fail;go_meet;exact⟨by cases c3<;>rfl,gy⟩
      case rest=>
       obtain⟨rfl,gb⟩:=hcut;have g4:=hn.bl gb;have h4:=hp.bl gb;have g9:=hu.kept (ak.of_below gb (fun b _ hlt=>hlt));have y:=g3.step gb;clear hn hp hu g3 gb;cases gx:(c1||(c2||c3))with
       |false=>have HF:=hid (show res=.fail (ar E.c (am D))by rw[<-HE.out,gx];rfl);go_wp2_with fail;refine(dh E (am D) _ y.rd).mono ?_;rintro e w13⟨rfl,ge⟩;unfold ag;exact⟨rfl,af HF.out y.gr (ac _ ge)⟩
       | true=>
        have M:=hid (show(nY F E.c (am D)).bind (fun d s1=>fI F p tx g1 (acc++[d]) E.c s1)=res by rw[<-HE.out,gx];rfl);clear HE gx;obtain⟨A4,c4,gv,_⟩:=g9.form;subst gv;obtain⟨x0,x1,x2,x3,y0,y1,y2,y3⟩:=ah g4;have gw:=g4.lt;cases hP:nY F E.c (am D)with
        |out=>exact absurd M.out.symm (by rw[hP];exact hw.out)
        |fail q=>have HF:Hid (res=.fail q):=hid (by rw[<-M.out,hP];rfl);go_wp2_with fail;let SS:World->Prop:=fun w'=>w'.cell? ⟨L,2,none⟩=some (.slice A4 acc.length c4);have h6:SS wc.drew:=x2;(refine jS (S:=SS) (by kernel_rfl) h6 ?_;intro g2;refine dF 0 g2 ?_;refine dF 1 g2 ?_;refine dF 2 g2 ?_;refine yd 3 fun K hK=>?_;go_simp);refine(CJ E F hF _ (am D) y.drew.rd (by rw[hP];exact nofun)).mono ?_;rw[hP];rintro e w9⟨rfl,h2⟩;unfold ag;exact⟨rfl,af HF.out y.drew.gr h2⟩
        | ok n2 s3=>
         have h7:Hid (fI F p tx g1 (acc++[n2]) E.c s3=res):=hid (by rw[<-M.out,hP];rfl);have HC:=hid (fun W(hr:aH E W (am D))=>CJ E F hF W (am D) hr (by rw[hP];exact nofun));rw[hP]at HC;clear M hP;go_wp2_with fail;(have hf:acc.length<=1000000:=by omega);(have hh:E.R<w.heap.size+1:=by omega);(have hz:w.heap.size+1<=wc.heap.size:=by omega);go_region_law (first
          |(refine lJ (by rfl) (.tmp 43) (.tmp 46) (by rfl) E s3 (w.heap.size+1) wc.heap.size (fun b=>b=L) w w10 (.slice A4 acc.length c4) acc n2 A7 c7 (by rfl) (by rfl) hv hl (jC _) hh hz hc (fun b hb=>by rw[hb];exact gw) (fun g hg=>(g9.lt g hg).2) hf h5 ?_;intro g c w11 O;have gt:aa w11 L 41 #[.int .i64 1,.string tx,.slice A4 acc.length c4,.int .i64 p]:=(O.old L gp (.inl rfl)).trans gj;obtain⟨v0,v1,v2,v3,f0,f1,f2,f3⟩:=ah gt)
          |(go_simp;(go_at_call 95);refine(HC.out _ y.drew.rd).mono ?_;rintro e w10⟨⟨v,rfl,ha⟩,I⟩;obtain⟨A7,c7,rfl,h5⟩:=ha.toC;have gj:=g4.drew.grown I.gr;have gu:=h4.drew.grown I.gr;have hv:=(g9.kept ((ak.refl _ _).drew)).grown I.gr hh;have hl:=y.drew.trans I;have hc:wc.heap.size<=w10.heap.size:=I.gr.size;have gp:=gj.lt;obtain⟨z0,z1,z2,z3,_,_,_,_⟩:=ah gj))
         (all_goals go_wp2_with fail);all_goals
          go_roundg g1
          case measure=>omega
          case rel=>
           refine⟨acc++[n2],s3,_,by simpa using gt.set_ 2 (.slice (some ⟨g,0,none⟩) (acc.length+1) c),?_,?_,by rw[gJ];simp;omega,h7.out,?_⟩
           ·exact O.own.kept ((ak.refl _ _).setCell (fun hX=>hX.2 rfl) _)
           ·exact aa.far (show aa w11 w.heap.size 41 bg from(O.old w.heap.size (by have:=gu.lt;omega) (.inr (by omega))).trans gu) (p:=⟨L,2,none⟩) (by show w.heap.size≠L;omega) _
           ·exact O.mov.own (p:=⟨L,2,none⟩) (by show w.heap.size<=L;omega) (by show E.R<L;omega) _
theorem I0(p q r:Addr)(w:World):
  CallsD prog 86 #[.pointer (some p),.pointer (some q),.pointer (some r)] .returning w fun e u' w'=>e=.returned (.tuple #[])/\u'=.returning/\w'=w:=by
 refine vM func86 rfl fun c₀ cs D=>?_;apply vW;apply qY;simp[wpOpsS,go_sem,recoverD,D,ntmps86,Exit.thenS];apply vW;apply qY;simp[wpOpsS,go_sem,Exit.thenS];refine wpS_cond (t:=false) (by simp[Act.eval,Array.replicate]) ?_;simp only[gX,kK];refine xq (wp_skip ?_);cases c₀
 simp_all[bodyPostS,results,results86]
theorem Nk(v:Value)(w:World):(Instr.typeAssert (.iface 158 v) 20 158 true).run prog w=.ok (.tuple #[v,.bool true]) w:=by kernel_rfl
attribute [local go_sem] Nk
theorem yZ(B P Q R:Nat)(p:Int)(a0 a1 a2 a3 vQ vR:Value)(w:World)(hP:aa w P 41 #[a0,a1,a2,a3])(hQ:aa w Q 3 #[vQ])(hR:aa w R 49 #[vR])(J:B<=P)(gi:B<=Q)(gh:B<=R)(I:P≠Q)(D:P≠R)(x:Q≠R):
  CallsD prog 86 #[P,Q,R] (.panicking [{ v:=.iface 158 (.agg #[p,.int .i64 5]),recovered:=false }]) w
   fun e u' w'=>e=.returned (.tuple #[])/\u'=.panicking [{ v:=.iface 158 (.agg #[p,.int .i64 5]),recovered:=true }] /\
    aa w' P 41 bg/\aa w' Q 3 #[p]/\aa w' R 49 #[.int .i64 5]/\Below B w w':=by refine vM func86 rfl fun c₀ cs hu=>?_;apply vW;apply qY;simp[wpOpsS,go_sem,recoverD,hu,ntmps86,Exit.thenS];apply vW;apply qY;simp[wpOpsS,go_sem,Exit.thenS];refine wpS_cond (t:=true) (by simp[Act.eval,Array.replicate]) ?_;simp only[kS];refine xq ?_;change Code.wp _ _ _ { tmps:=#[.pointer (some ⟨P,0,none⟩),.pointer (some ⟨Q,0,none⟩),.pointer (some ⟨R,0,none⟩),.iface 158 (.agg #[p,.int .i64 5]),undef,undef,.iface 158 (.agg #[p,.int .i64 5]),.iface 158 (.agg #[p,.int .i64 5]),.bool true,undef,undef,undef,undef,undef,undef,undef,undef,undef,undef,undef,undef,undef],defers:=[] } _;have ga:=hP.alloc (.cells #[p,.int .i64 5] 158);have O:=hQ.alloc (.cells #[p,.int .i64 5] 158);have M:=hR.alloc (.cells #[p,.int .i64 5] 158);have h:=aa.new w 158 #[p,.int .i64 5];have gj:Below B w (w.alloc (.cells #[p,.int .i64 5] 158)):=(gC _ _).alloc (by have:=hP.lt;omega) _;have gm:=hP.lt;have gl:=hQ.lt;have gk:=hR.lt;(go_upto_region 5 with fail);generalize w.alloc (.cells #[p,.int .i64 5] 158)=w1 at *;(have gq:P≠w.heap.size:=by omega);(have gp:Q≠w.heap.size:=by omega);(have gn:R≠w.heap.size:=by omega);generalize w.heap.size=T at *;obtain⟨x0,x1,x2,x3,f0,f1,f2,f3⟩:=ah ga;have y1:=aw O;have y2:=aw M;have y3:w1.cell? ⟨T,0,none⟩=some (.int .i64 p):=(h.cell 0).trans rfl;have y4:w1.cell? ⟨T,1,none⟩=some (.int .i64 5):=(h.cell 1).trans rfl;have g1:=O.frozen 0;have g2:=M.frozen 0;go_region;all_goals have z:aa (cM w1 P (.int .i64 0) (.string ⟨#[]⟩) (.slice none 0 0) (.int .i64 0)) P 41 bg:=cJ ga (.int .i64 0) (.string ⟨#[]⟩) (.slice none 0 0) (.int .i64 0);have y:aa (cM w1 P (.int .i64 0) (.string ⟨#[]⟩) (.slice none 0 0) (.int .i64 0)) Q 3 #[vQ]:=(((O.far (p:=⟨P,0,none⟩) I.symm (.int .i64 0)).far (p:=⟨P,1,none⟩) I.symm (.string ⟨#[]⟩)).far (p:=⟨P,2,none⟩) I.symm (.slice none 0 0)).far (p:=⟨P,3,none⟩) I.symm (.int .i64 0);have q:aa (cM w1 P (.int .i64 0) (.string ⟨#[]⟩) (.slice none 0 0) (.int .i64 0)) R 49 #[vR]:=(((M.far (p:=⟨P,0,none⟩) D.symm (.int .i64 0)).far (p:=⟨P,1,none⟩) D.symm (.string ⟨#[]⟩)).far (p:=⟨P,2,none⟩) D.symm (.slice none 0 0)).far (p:=⟨P,3,none⟩) D.symm (.int .i64 0);have gb:Below B w (cM w1 P (.int .i64 0) (.string ⟨#[]⟩) (.slice none 0 0) (.int .i64 0)):=(((gj.setCell (p:=⟨P,0,none⟩) J _).setCell (p:=⟨P,1,none⟩) J _).setCell (p:=⟨P,2,none⟩) J _).setCell (p:=⟨P,3,none⟩) J _;unfold cM at z y q gb;generalize(((w1.setCell ⟨P,0,none⟩ (.int .i64 0)).setCell ⟨P,1,none⟩ (.string ⟨#[]⟩)).setCell ⟨P,2,none⟩ (.slice none 0 0)).setCell ⟨P,3,none⟩ (.int .i64 0)=w3 at *;have gg:aa ((w3.setCell ⟨Q,0,none⟩ (.int .i64 p)).setCell ⟨R,0,none⟩ (.int .i64 5)) P 41 bg:=(z.far (p:=⟨Q,0,none⟩) I (.int .i64 p)).far (p:=⟨R,0,none⟩) D (.int .i64 5);have ge:aa ((w3.setCell ⟨Q,0,none⟩ (.int .i64 p)).setCell ⟨R,0,none⟩ (.int .i64 5)) Q 3 #[p]:=(show aa (w3.setCell ⟨Q,0,none⟩ (.int .i64 p)) Q 3 #[p]by simpa using y.set_ 0 (.int .i64 p)).far (p:=⟨R,0,none⟩) x (.int .i64 5);(have gd:aa ((w3.setCell ⟨Q,0,none⟩ (.int .i64 p)).setCell ⟨R,0,none⟩ (.int .i64 5)) R 49 #[.int .i64 5]:=by simpa using(q.far (p:=⟨Q,0,none⟩) x.symm (.int .i64 p)).set_ 0 (.int .i64 5));refine⟨rfl,_,rfl,.tuple #[],?_,rfl,rfl,gg.drew,ge.drew,gd.drew,((gb.setCell (p:=⟨Q,0,none⟩) gi (.int .i64 p)).setCell (p:=⟨R,0,none⟩) gh (.int .i64 5)).drew⟩;simp[results,results86,go_sem]
theorem rN{w w1 w5:World}{R:Option Nat}(D:w.grownBy w1 R)(hb:Below w.heap.size w1 w5):w.grownBy w5 R:=
 ⟨hb.os.trans D.os,hb.tape.trans D.tape,hb.output.trans D.output,gM D.size hb.size,fun b hb' hne=>(hb.block b hb').trans (D.block b hb' hne)⟩
def I1(E:bC)(w:World)(p:Int)(e:Ending)(w':World):Prop:=
 e=.returned (.tuple #[.agg bg,p,.int .i64 5])/\w.grownBy w' (some E.R)
theorem I3(E:bC)(k:FuncId)(first cap:Array Value)(part:R Nd)(s:St)(p:Int)(sort:ByteArray)(w:World)(h:aH E w s)
  (hk:∀a w,(callFunc k a).run prog w=.ok (.enter k a) w)(hp:eu E k (first++cap) part w)(hP:part E.c s=.fail p):
  Calls prog 50 #[E.R,sort,.func (.func k) first cap] w (I1 E w p):=by have gh:∀(fn:Fn)(first cap:Array Value)(w:World),(Instr.makeFunc fn first cap).run prog w=.ok (.func fn first cap) w:=fun _ _ _ _=>rfl;have gg:=h.lt;have I:=(((au.refl h).alloc (.cells bg 41)).alloc (.cells #[.int .i64 0] 3)).alloc (.cells #[.int .i64 0] 49);have y:aa (((w.alloc (.cells bg 41)).alloc (.cells #[.int .i64 0] 3)).alloc (.cells #[.int .i64 0] 49)) w.heap.size 41 bg:=((aa.new w _ _).alloc _).alloc _;have q:aa (((w.alloc (.cells bg 41)).alloc (.cells #[.int .i64 0] 3)).alloc (.cells #[.int .i64 0] 49)) (w.heap.size+1) 3 #[.int .i64 0]:=(aa.new_at (by simp) _ _).alloc _;have M:aa (((w.alloc (.cells bg 41)).alloc (.cells #[.int .i64 0] 3)).alloc (.cells #[.int .i64 0] 49)) (w.heap.size+2) 49 #[.int .i64 0]:=aa.new_at (by simp) _ _;have HC:=hid (hp _ s I.gr I.rd (by rw[hP];exact nofun));rw[hP]at HC;clear hp hP;(go_enter_defers func50,ntmps50);go_wp2_with fail;refine HC.out.mono ?_;rintro e w1⟨rfl,D⟩;have x:=y.grown D;have O:=q.grown D;have J:=M.grown D;have z:=I.gr.trans D;clear y q M I HC D;unfold ag;refine kZ (f:=86) (args:=#[w,.pointer (some ⟨w.heap.size+1,0,none⟩),.pointer (some ⟨w.heap.size+1+1,0,none⟩)]) (by simp) (by simp[go_sem]) ?_;refine(yZ w.heap.size w.heap.size (w.heap.size+1) (w.heap.size+2) p _ _ _ _ _ _ w1 x O J (gA _) (by omega) (by omega) (by omega) (by omega) (by omega)).mono ?_;rintro e u' w5⟨rfl,rfl,gd,gb,ga,ge⟩;obtain⟨x0,x1,x2,x3,-,-,-,-⟩:=ah gd;have z1:=aw gb;have z2:w5.cell? ⟨w.heap.size+1+1,0,none⟩=some (.int .i64 5):=aw ga;simp[Leaves,settle,results,results50,go_sem,x0,x1,x2,x3,z1,z2];exact⟨rfl,rN z ge⟩
theorem I4(E:bC)(k:FuncId)(first cap:Array Value)(part:R Nd)(s s1:St)(n:Nd)(sort:ByteArray)(w:World)(h:aH E w s)
  (hk:∀a w,(callFunc k a).run prog w=.ok (.enter k a) w)(hp:eu E k (first++cap) part w)(hP:part E.c s=.ok n s1)(gv:s1.at_<E.c.toks.length):
  Calls prog 50 #[E.R,sort,.func (.func k) first cap] w (I1 E w (ar E.c s1)):=by have g3:∀(fn:Fn)(first cap:Array Value)(w:World),(Instr.makeFunc fn first cap).run prog w=.ok (.func fn first cap) w:=fun _ _ _ _=>rfl;have gj:=h.lt;have y:=(((au.refl h).alloc (.cells bg 41)).alloc (.cells #[.int .i64 0] 3)).alloc (.cells #[.int .i64 0] 49);have gt:aa (((w.alloc (.cells bg 41)).alloc (.cells #[.int .i64 0] 3)).alloc (.cells #[.int .i64 0] 49)) w.heap.size 41 bg:=((aa.new w _ _).alloc _).alloc _;have gq:aa (((w.alloc (.cells bg 41)).alloc (.cells #[.int .i64 0] 3)).alloc (.cells #[.int .i64 0] 49)) (w.heap.size+1) 3 #[.int .i64 0]:=(aa.new_at (by simp) _ _).alloc _;have gn:aa (((w.alloc (.cells bg 41)).alloc (.cells #[.int .i64 0] 3)).alloc (.cells #[.int .i64 0] 49)) (w.heap.size+2) 49 #[.int .i64 0]:=aa.new_at (by simp) _ _;have HC:=hid (hp _ s y.gr y.rd (by rw[hP];exact nofun));rw[hP]at HC;(have g4:(s1.at_:Int)<(E.c.toks.length:Int):=by omega);clear hp hP gv;(go_enter_defers func50,ntmps50);go_wp2_with fail;refine HC.out.mono ?_;rintro e w1⟨⟨v,rfl,hv⟩,M⟩;obtain⟨A,cp,rfl,hC⟩:=hv.toC;have q:=gt.grown M.gr;have gd:=gq.grown M.gr;have ga:=gn.grown M.gr;have gl:=y.trans M;(have gw:(((w.alloc (.cells bg 41)).alloc (.cells #[.int .i64 0] 3)).alloc (.cells #[.int .i64 0] 49)).heap.size=w.heap.size+3:=by simp);have gu:=M.gr.size;rw[gw]at gu hv;obtain⟨d0,d1,d2,d3,e0,e1,e2,e3⟩:=ah q;have J:=cJ q (.int .i64 n.kind) (.string n.text) (.slice A n.kids.length cp) (.int .i64 n.pos);have x:=dI gl (gA _) gj (.int .i64 n.kind) (.string n.text) (.slice A n.kids.length cp) (.int .i64 n.pos);have gg:=hv.kept (cA (X:=fun b=>w.heap.size+3<=b) (wk:=w1) (g:=w.heap.size) (fun b hb=>by have hb:w.heap.size+3<=b:=hb;omega) (.int .i64 n.kind) (.string n.text) (.slice A n.kids.length cp) (.int .i64 n.pos));have I:=(((gd.far (p:=⟨w,0,none⟩) (by show w.heap.size+1≠w.heap.size;omega) (.int .i64 n.kind)).far (p:=⟨w,1,none⟩) (by show w.heap.size+1≠w.heap.size;omega) (.string n.text)).far (p:=⟨w,2,none⟩) (by show w.heap.size+1≠w.heap.size;omega) (.slice A n.kids.length cp)).far (p:=⟨w,3,none⟩) (by show w.heap.size+1≠w.heap.size;omega) (.int .i64 n.pos);have D:=(((ga.far (p:=⟨w,0,none⟩) (by show w.heap.size+2≠w.heap.size;omega) (.int .i64 n.kind)).far (p:=⟨w,1,none⟩) (by show w.heap.size+2≠w.heap.size;omega) (.string n.text)).far (p:=⟨w,2,none⟩) (by show w.heap.size+2≠w.heap.size;omega) (.slice A n.kids.length cp)).far (p:=⟨w,3,none⟩) (by show w.heap.size+2≠w.heap.size;omega) (.int .i64 n.pos);have I:aa (cM w1 w.heap.size (.int .i64 n.kind) (.string n.text) (.slice A n.kids.length cp) (.int .i64 n.pos)) (w.heap.size+1) 3 #[.int .i64 0]:=I;have D:aa (cM w1 w.heap.size (.int .i64 n.kind) (.string n.text) (.slice A n.kids.length cp) (.int .i64 n.pos)) (w.heap.size+2) 49 #[.int .i64 0]:=D;obtain⟨c0,c1,-,-,-,-⟩:=x.rd.cells;unfold cM at c0 c1 J I D x gg;clear gl;clear q gd ga M;clear gt gq gn;clear y;clear HC hC;clear hv;(go_upto_region 3 with fail);generalize(((w1.setCell ⟨w,0,none⟩ (.int .i64 n.kind)).setCell ⟨w,1,none⟩ (.string n.text)).setCell ⟨w,2,none⟩ (.slice A n.kids.length cp)).setCell ⟨w,3,none⟩ (.int .i64 n.pos)=w2 at *;clear d0 d1 d2 d3 e0 e1 e2 e3;go_wp2_with fail;go_quiet (fail);have gi:=gg.below ((az (gC _ w2) nq));have gh:=x.drewN nq;obtain⟨x0,x1,x2,x3,-,-,-,-⟩:=ah (J.drewN nq);have gb:=I.drewN nq;have z:=D.drewN nq;have ge:=J.drewN nq;have g1:=hid gi;clear gg x J I D c0 c1 gi;generalize w2.drewN nq=w3 at *;go_wp2_with fail;refine(dh E s1 _ gh.rd).mono ?_;rintro e w4⟨rfl,O⟩;have gk:=gh.step O;have gs:=ge.bl O;have gp:=gb.bl O;have gm:=z.bl O;have g2:=gk.gr.size;clear O gh ge gb z g1 x0 x1 x2 x3;unfold ag;refine kZ (f:=86) (args:=#[w,.pointer (some ⟨w.heap.size+1,0,none⟩),.pointer (some ⟨w.heap.size+1+1,0,none⟩)]) (by simp) (by simp[go_sem]) ?_;refine(yZ w.heap.size w.heap.size (w.heap.size+1) (w.heap.size+2) (ar E.c s1) _ _ _ _ _ _ w4 gs gp gm (gA _) (by omega) (by omega) (by omega) (by omega) (by omega)).mono ?_;rintro e u' w5⟨rfl,rfl,gz,gy,gx,g0⟩;obtain⟨x0,x1,x2,x3,-,-,-,-⟩:=ah gz;have z1:=aw gy;have z2:w5.cell? ⟨w.heap.size+1+1,0,none⟩=some (.int .i64 5):=aw gx;simp[Leaves,settle,results,results50,go_sem,x0,x1,x2,x3,z1,z2];exact⟨rfl,rN gk.gr g0⟩
end
section
open Go.RowKit Go.Lib Go.Proofs
attribute [local go_sem ↓] Go.wp_at_zero Go.wp_at_succ
def cT(w:World)(g:Nat)(l:List ByteArray):Prop:=∀i(h:i<l.length),w.cell? ⟨g,i,none⟩=some (.string l[i])
theorem cT.of_blk{w:World}{g:Nat}{t:TypeId}{l:List ByteArray}{C:Array Value}(e:C=(l.map Value.string).toArray)(h:aa w g t C):cT w g l:=by subst e;intro i hi;have:=h.cell i;rw[this];simp[hi]
theorem cT.below{w w':World}{g:Nat}{l:List ByteArray}(h:cT w g l)(hb:Below w w w'):cT w' g l:=fun i hi=>cell_kept hb (h i hi)
theorem cT.grown{w w':World}{R g:Nat}{l:List ByteArray}(h:cT w g l)(D:w.grownBy w' (some R))(I:g≠R):cT w' g l:=fun i hi=>D.cell (h i hi) (fun e=>I (by injection e))
def sU(w:World)(A:Option Addr)(l:List ByteArray):Prop:=∀i(hi:i<l.length),∃b o,A=some ⟨b,o,none⟩/\w.cell? ⟨b,o+i,none⟩=some (.string l[i])
theorem sU.below{w w':World}{A:Option Addr}{l:List ByteArray}(h:sU w A l)(hb:Below w w w'):sU w' A l:=fun i hi=>by obtain⟨b,o,e,D⟩:=h i hi;exact⟨b,o,e,cell_kept hb D⟩
def Ol(l:List ByteArray)(x:ByteArray)(w:World)(e:Ending)(w':World):Prop:=∃r:Int,e=.returned (.int .i64 r)/\decide (0<=r)=(l.any fun y=>decide (x=y))/\w=w'
theorem Om(x:ByteArray)(l:List ByteArray)(A:Option Addr)(c:Nat)(w:World)(hl:l.length<=1000)(h:sU w A l):
  Calls prog 132 #[.slice A l.length c,x] w (Ol l x w):=by
 have H:=hid h;clear h;(go_enter func132,ntmps132);go_wp2_with fail;go_loopg [5,8] l.length (fun k _ u8 wr=>∃i:Nat,i<=l.length/\l.length-i<=k/\u8=.int .i64 (i:Int)/\w=wr/\(l.take i).any (fun y=>decide (x=y))=false)
 case atStart=>exact⟨0,gT _,by omega,rfl,rfl,rfl⟩
 case round=>
  obtain⟨i,hi,hk,rfl,rfl,O⟩:=hrel;by_cases D:i<l.length
  ·(have J:(i:Int)<(l.length:Int):=by omega);(have h0:(0:Int)<=(i:Int):=by omega);obtain⟨b,o,rfl,hc⟩:=H.out i D;have z:=hid (show(l.take (i+1)).any (fun y=>decide (x=y))=decide (x=l[i])by rw[kC D,List.any_append,O];simp);have HA:Hid (decide (x=l[i])=true->l.any (fun y=>decide (x=y))=true):=hid (by intro hd;rw[List.any_eq_true];exact⟨_,jF D,hd⟩);clear O;generalize l[i]=y at *;cases I:decide (x=y)with
   |true=>(have q:(x.toList==y.toList)=true:=by rw[bW];simpa using I);have M:=hid (HA.out I);clear I HA z;go_wp2_with fail;go_ret;exact⟨(i:Int),rfl,by rw[M.out];simp,rfl⟩
   |false=>
    (have q:(x.toList==y.toList)=false:=by rw[bW];simpa using I);have M:=hid (z.out.trans I);clear I HA z;go_wp2_with fail;go_roundg (l.length-(i+1))
    case measure=>omega
    case rel=>exact⟨i+1,by omega,gA _,by go_num,rfl,M.out⟩
  ·(have J:¬ (i:Int)<(l.length:Int):=by omega);have M:Hid (l.any (fun y=>decide (x=y))=false):=hid (by rw[<-O,jU (by omega)]);clear O;go_wp2_with fail;go_ret;exact⟨-1,rfl,by rw[M.out];rfl,rfl⟩
theorem BZ(x:ByteArray)(l:List ByteArray)(A:Option Addr)(c:Nat)(w:World)(O:l.length<=1000)(h:sU w A l):
  Calls prog 82 #[.slice A l.length c,x] w fun e w'=>e=.returned (.bool (l.any fun y=>decide (x=y)))/\w=w':=by
 have M:=hid (Om x l A c w O h);obtain⟨bb,D⟩:∃bb,bb=l.any fun y=>decide (x=y):=⟨_,rfl⟩
 rw[<-D];have I:=hid D;clear h D;(go_enter func82,ntmps82);go_wp2_with fail;refine M.out.mono ?_;rintro e w'⟨r,rfl,J,rfl⟩;have q:=hid (I.out.trans J.symm);clear J M I;go_wp2_with fail;go_ret;exact⟨by rw[q.out];rfl,rfl⟩
theorem MR(x:ByteArray)(l:List ByteArray)(g c:Nat)(w:World)(D:l.length<=1000)(h:cT w g l):
  Calls prog 82 #[.slice (some ⟨g,0,none⟩) l.length c,x] w fun e w'=>e=.returned (.bool (l.any fun y=>decide (x=y)))/\w=w':=
 BZ x l _ c w D fun i hi=>⟨g,0,rfl,by rw[kL];exact h i hi⟩
structure B0(w:World)(a b c d e:Nat):Prop where
 l0:cT w a (Dt 5)
 l1:cT w b (Dt 4)
 l2:cT w c (Dt 3)
 l3:cT w d (Dt 2)
 l4:cT w e (Dt 1)
theorem B0.below{w w':World}{a b c d e:Nat}(h:B0 w a b c d e)(hb:Below w w w'):B0 w' a b c d e:=
 ⟨h.l0.below hb,h.l1.below hb,h.l2.below hb,h.l3.below hb,h.l4.below hb⟩
def Ip(a b c d e:Nat):Value:=.agg #[.slice (some ⟨a,0,none⟩) 1 1,.slice (some ⟨b,0,none⟩) 1 1,.slice (some ⟨c,0,none⟩) 6 6,.slice (some ⟨d,0,none⟩) 2 2,.slice (some ⟨e,0,none⟩) 3 3]
def MS(w:World)(e:Ending)(w':World):Prop:=∃a b c d f:Nat,e=.returned (Ip a b c d f)/\B0 w' a b c d f/\(w.heap.size<=a/\w.heap.size<=b/\w.heap.size<=c/\w.heap.size<=d/\w.heap.size<=f)/\Below w w w'
theorem uI(w:World):Calls prog 300 #[] w (MS w):=by(go_enter func300,ntmps300);go_wp2_with fail;have hb:Below w w ((((((w.alloc (.cells #[.slice (some ⟨w.heap.size+1,0,none⟩) 1 1,.slice (some ⟨w.heap.size+1+1,0,none⟩) 1 1,.slice (some ⟨w.heap.size+1+1+1,0,none⟩) 6 6,.slice (some ⟨w.heap.size+1+1+1+1,0,none⟩) 2 2,.slice (some ⟨w.heap.size+1+1+1+1+1,0,none⟩) 3 3] 293)).alloc (.cells #[.string ⟨#[124,124]⟩] 9)).alloc (.cells #[.string ⟨#[38,38]⟩] 9)).alloc (.cells #[.string ⟨#[61,61]⟩,.string ⟨#[33,61]⟩,.string ⟨#[60]⟩,.string ⟨#[60,61]⟩,.string ⟨#[62]⟩,.string ⟨#[62,61]⟩] 9)).alloc (.cells #[.string ⟨#[43]⟩,.string ⟨#[45]⟩] 9)).alloc (.cells #[.string ⟨#[42]⟩,.string ⟨#[47]⟩,.string ⟨#[37]⟩] 9)):=bel;have O:aa ((w.alloc (.cells #[.slice (some ⟨w.heap.size+1,0,none⟩) 1 1,.slice (some ⟨w.heap.size+1+1,0,none⟩) 1 1,.slice (some ⟨w.heap.size+1+1+1,0,none⟩) 6 6,.slice (some ⟨w.heap.size+1+1+1+1,0,none⟩) 2 2,.slice (some ⟨w.heap.size+1+1+1+1+1,0,none⟩) 3 3] 293)).alloc (.cells #[.string ⟨#[124,124]⟩] 9)) (w.heap.size+1) 9 #[.string ⟨#[124,124]⟩]:=aa.new_at (by simp) _ _;have M:aa (((w.alloc (.cells #[.slice (some ⟨w.heap.size+1,0,none⟩) 1 1,.slice (some ⟨w.heap.size+1+1,0,none⟩) 1 1,.slice (some ⟨w.heap.size+1+1+1,0,none⟩) 6 6,.slice (some ⟨w.heap.size+1+1+1+1,0,none⟩) 2 2,.slice (some ⟨w.heap.size+1+1+1+1+1,0,none⟩) 3 3] 293)).alloc (.cells #[.string ⟨#[124,124]⟩] 9)).alloc (.cells #[.string ⟨#[38,38]⟩] 9)) (w.heap.size+1+1) 9 #[.string ⟨#[38,38]⟩]:=aa.new_at (by simp) _ _;have J:=aa.new_at (w:=((w.alloc (.cells #[.slice (some ⟨w.heap.size+1,0,none⟩) 1 1,.slice (some ⟨w.heap.size+1+1,0,none⟩) 1 1,.slice (some ⟨w.heap.size+1+1+1,0,none⟩) 6 6,.slice (some ⟨w.heap.size+1+1+1+1,0,none⟩) 2 2,.slice (some ⟨w.heap.size+1+1+1+1+1,0,none⟩) 3 3] 293)).alloc (.cells #[.string ⟨#[124,124]⟩] 9)).alloc (.cells #[.string ⟨#[38,38]⟩] 9)) (n:=w.heap.size+1+1+1) (by simp) 9 #[.string ⟨#[61,61]⟩,.string ⟨#[33,61]⟩,.string ⟨#[60]⟩,.string ⟨#[60,61]⟩,.string ⟨#[62]⟩,.string ⟨#[62,61]⟩];have I:=aa.new_at (w:=(((w.alloc (.cells #[.slice (some ⟨w.heap.size+1,0,none⟩) 1 1,.slice (some ⟨w.heap.size+1+1,0,none⟩) 1 1,.slice (some ⟨w.heap.size+1+1+1,0,none⟩) 6 6,.slice (some ⟨w.heap.size+1+1+1+1,0,none⟩) 2 2,.slice (some ⟨w.heap.size+1+1+1+1+1,0,none⟩) 3 3] 293)).alloc (.cells #[.string ⟨#[124,124]⟩] 9)).alloc (.cells #[.string ⟨#[38,38]⟩] 9)).alloc (.cells #[.string ⟨#[61,61]⟩,.string ⟨#[33,61]⟩,.string ⟨#[60]⟩,.string ⟨#[60,61]⟩,.string ⟨#[62]⟩,.string ⟨#[62,61]⟩] 9)) (n:=w.heap.size+1+1+1+1) (by simp) 9 #[.string ⟨#[43]⟩,.string ⟨#[45]⟩];have D:=aa.new_at (w:=((((w.alloc (.cells #[.slice (some ⟨w.heap.size+1,0,none⟩) 1 1,.slice (some ⟨w.heap.size+1+1,0,none⟩) 1 1,.slice (some ⟨w.heap.size+1+1+1,0,none⟩) 6 6,.slice (some ⟨w.heap.size+1+1+1+1,0,none⟩) 2 2,.slice (some ⟨w.heap.size+1+1+1+1+1,0,none⟩) 3 3] 293)).alloc (.cells #[.string ⟨#[124,124]⟩] 9)).alloc (.cells #[.string ⟨#[38,38]⟩] 9)).alloc (.cells #[.string ⟨#[61,61]⟩,.string ⟨#[33,61]⟩,.string ⟨#[60]⟩,.string ⟨#[60,61]⟩,.string ⟨#[62]⟩,.string ⟨#[62,61]⟩] 9)).alloc (.cells #[.string ⟨#[43]⟩,.string ⟨#[45]⟩] 9)) (n:=w.heap.size+1+1+1+1+1) (by simp) 9 #[.string ⟨#[42]⟩,.string ⟨#[47]⟩,.string ⟨#[37]⟩];refine jD (v:=Ip (w.heap.size+1) (w.heap.size+1+1) (w.heap.size+1+1+1) (w.heap.size+1+1+1+1) (w.heap.size+1+1+1+1+1)) (by simp[results,Ip,results300,go_sem]) rfl ?_;exact⟨_,_,_,_,_,rfl,⟨cT.of_blk rfl ((((O.alloc _).alloc _).alloc _).alloc _),cT.of_blk rfl (((M.alloc _).alloc _).alloc _),cT.of_blk rfl ((J.alloc _).alloc _),cT.of_blk rfl (I.alloc _),cT.of_blk rfl D⟩,⟨by omega,by omega,by omega,by omega,by omega⟩,hb⟩
end
section
open Go.ChangeShapes Go.WideShapes Go.ChangeAt Go.RowKit Go.Shelf Go.Lib
theorem DD:(Rows.laid_internal_strconv_uint64pow10:DataW Unit)=tabData .u64 pow10Tab:=by kernel_rfl
theorem Iq{n nm:String}{d:DataW Unit}{W:World}{g:Nat}(h:VarReads prog W n (.iface nm d))(D:prog.globalNamed n=some g)(I:(prog.globals[g]?).map (·.type)=some 96):yJ g W:=by obtain⟨g',t',cs,fuel,p,q,O,M,J⟩:=h;obtain rfl:=xn (D.symm.trans q);obtain rfl:=xn (I.symm.trans O);obtain⟨l⟩:=cs;obtain⟨f1,u,v,rfl,-,-⟩:=iface_of_trod underlying96 J;exact⟨_,World.var?_cell D M 0,.inr ⟨_,_,rfl⟩⟩
theorem MT{W:World}(D:laidMet prog uA W):mG W:=by have I:=laidMet.tail (laidMet.tail D);rw[DD]at I;exact⟨Iq (laidMet.reads (n := "strconv.ErrSyntax") (d:=Rows.laid_strconv_ErrSyntax) D (by unfold uA;simp)) (by kernel_rfl) (by kernel_rfl),Iq (laidMet.reads (n := "strconv.ErrRange") (d:=Rows.laid_strconv_ErrRange) D (by unfold uA;simp)) (by kernel_rfl) (by kernel_rfl),tabIs_of_head O8 (t:=258) (e:=206) (n:=20) (by kernel_rfl) underlying258 underlying206 (by kernel_rfl) (by kernel_rfl) I⟩
section
variable {H:Type} {enc:TypeId×Value->H}
theorem Ir:prog.cellsOf 9=1:=by kernel_rfl
theorem DE{W:World}{base:Nat}{v1:Value}{d1:DataW H}{p1:List MemPlace}(I:Value.okWide prog W .any base 24 v1)(h1:DataW.Trod enc prog W 0 (fun _=>true) true 24 v1 d1 p1):
  ∃(A:Option Addr)(c:Nat)(l:List ByteArray),v1=.slice A l.length c/\sU W A l:=by
 obtain⟨a1,len,cap,rfl⟩:=okWide_slice underlying24 I;obtain⟨fuel,hf⟩:=h1;rcases open_strings underlying24 underlying9 Ir hf with⟨D,y⟩|⟨a,len',cap',zs,D,_,hl,hm,x,y,M,z⟩
 ·simp[Value.cells]at D;obtain⟨rfl,rfl,rfl⟩:=D;exact⟨none,0,[],rfl,fun i hi=>by simp at hi⟩
 ·simp[Value.cells]at D;obtain⟨rfl,rfl,rfl⟩:=D;simp only[kS]at x;(obtain⟨-,-,-,J,row,cells,ga,-⟩:_/\_/\_/\a.spot=none/\∃row cells,W.shape? a.block=some (row,cells)/\_:=by have h:=I;simp only[Value.okWide,underlying24,Cell.okWide,Cell.ok]at h;obtain⟨e1,e2,e3,e4,e5⟩:=h;exact⟨e1,e2,e3,e4,e5⟩);obtain⟨ab,ao,spot⟩:=a;have J:spot=none:=J;subst J;(have O:(zs.take len).length=len:=by rw[qO];omega);refine⟨some ⟨ab,ao,none⟩,cap,zs.take len,by rw[O],fun i hi=>⟨ab,ao,rfl,?_⟩⟩;(have gb:i<len:=by rw[O]at hi;exact hi);have q:=M i (by omega);rw[Addr.add_lit]at q;rw[q,jJ,gO (show i<zs.length by omega),List.getElem_take];rfl
end
end
section
open Go.RowKit Go.Lib
def la(u:UInt8):List Value:=[.int .u8 (u.toNat:Int)]
theorem oL(s:ByteArray)(i:Nat)(h:i<s.size):1<=(Utf8.decode s i).2/\i+(Utf8.decode s i).2<=s.size:=by simp only[Utf8.decode];(repeat' split);(all_goals simp_all);all_goals omega
abbrev my:=ByteArray×Option Addr×Nat×ByteArray
def f9(x:my):List Value:=[.string x.1,.slice x.2.1 x.2.2.2.size x.2.2.1]
theorem mH(x:my):(f9 x).length=2:=rfl
def B2(w:World)(B:Nat)(xs:List my):Prop:=∀x∈xs,aA w B 1 x.2.1 x.2.2.2.size (x.2.2.2.data.toList.flatMap la)/\x.2.2.2.size<=100000
theorem B2.below{w w':World}{B:Nat}{xs:List my}(h:B2 w B xs)(hb:Below B w w'):B2 w' B xs:=fun x hx=>⟨(h x hx).1.below hb,(h x hx).2⟩
def bB(x:my):ByteArray×ByteArray:=(x.1,x.2.2.2)
end
section
open Go.RowKit Go.ChangeShapes Go.WideShapes Go.Deep
theorem FB:prog.cellsOf 27=2:=by kernel_rfl
theorem Is:prog.cellsOf 5=1:=by kernel_rfl
theorem DF{H:Type}{enc:TypeId×Value->H}{w:World}{base:Nat}{spare:Nat->Bool}{held:Bool}{fuel:Nat}{v:Value}{x:DataW H×List MemPlace}
  (h:DataW.trod enc prog w base spare held fuel 22 [v]=some x):
  ∃(A:Option Addr)(c:Nat)(s:ByteArray),v=.slice A s.size c/\aA w w.heap.size 1 A s.size (s.data.toList.flatMap la):=by
 rcases open_slice underlying22 h with⟨e,_⟩|⟨a,len,cap,m,n,D,Pl,e,_,gb,gd,hm,_,hi⟩
 ·simp only[vk,xu]at e;exact⟨none,0,⟨#[]⟩,e,aA.none_⟩
 ·simp only[vk,xu]at e;(have ga:len<=m:=by rw[hm];split<;>omega);have M:∀i,i<len->∃u:UInt8,∀j v,(la u)[j]? = some v->w.cell? (a.add (i*1+j))=some v:=by
   intro i hil;obtain⟨cs',hc,ht⟩:=hi i (by omega);rw[Is]at hc;obtain⟨z,e1,_,J⟩:=DataW.trod_int underlying5 ht;subst e1;obtain⟨_,_,O⟩:=World.cells?_some hc;have h0:=O 0 (by omega);simp only[Lit.wf,gR,jG]at J;have hz:(0:Int)<=z/\z<=255:=J;refine⟨UInt8.ofNat z.toNat,fun j v I=>?_⟩
   match j,I with
   |0,I=>simp only[la,List.getElem?_cons_zero,Option.some.injEq]at I;subst I;(have e2:((UInt8.ofNat z.toNat).toNat:Int)=z:=by rw[UInt8.toNat_ofNat'];omega);rw[e2,kF];rw[Go.Deep.add_add]at h0;simpa using h0
   |j+1,I=>simp[la]at I
  obtain⟨l,y,hp⟩:=nV len M;(have q:(⟨l.toArray⟩:ByteArray).size=len:=by simp[ByteArray.size,y]);refine⟨some a,cap,⟨l.toArray⟩,by rw[q];exact e,?_⟩;rw[q];exact nW (fun _=>rfl) (by omega) y (fun i h j u hu=>hp i h j u hu)
def MU(w:World)(cs:List Value):Prop:=
 ∃ (A:Option Addr)(n c:Nat)(l:List my),cs=[.slice A n c]/\l.length=n/\aA w w.heap.size 2 A n (l.flatMap f9) /\
   ∀x∈l,aA w w.heap.size 1 x.2.1 x.2.2.2.size (x.2.2.2.data.toList.flatMap la)
theorem DG{H:Type}{enc:TypeId×Value->H}{w:World}{base:Nat}{spare:Nat->Bool}{held:Bool}{fuel:Nat}{cs:List Value}{x:DataW H×List MemPlace}
  (h:DataW.trod enc prog w base spare held fuel 23 cs=some x):MU w cs:=by
 rcases ra underlying23 underlying27 (by kernel_rfl) FB h with⟨rfl,rfl⟩|⟨a,len,cap,m,D,Pl,rfl,_,gd,ge,hm,rfl,hi⟩
 ·exact⟨none,0,0,[],rfl,rfl,aA.none_,fun y hy=>by simp at hy⟩
 ·(have gb:len<=m:=by rw[hm];split<;>omega);have M:∀i,i<len->∃y:my,(∀j u,(f9 y)[j]? = some u->w.cell? (a.add (i*2+j))=some u)/\aA w w.heap.size 1 y.2.1 y.2.2.2.size (y.2.2.2.data.toList.flatMap la):=by
   intro i hil;obtain⟨ys,n',hD,_,q,hf⟩:=hi i (by omega);obtain⟨v0,y0,c0,q0,t0⟩:=hf 0 _ rfl;obtain⟨v1,y1,c1,q1,t1⟩:=hf 1 _ rfl;obtain⟨s0,e0,f0,ga⟩:=DataW.trod_string underlying9 t0;obtain⟨A,c,s,e1,hr⟩:=DF t1;simp only[vk,xu]at e0;subst e0 e1;refine⟨(s0,A,c,s),fun j u I=>?_,hr⟩
   match j,I with
   |0,I=>simp[f9]at I;subst I;exact c0
   |1,I=>simp[f9]at I;subst I;exact c1
   |j+2,I=>simp[f9]at I
  obtain⟨l,z,O⟩:=nV len M;refine⟨some a,len,cap,l,rfl,z,nW (fun _=>rfl) (by omega) z (fun i h j u I=>(O i h).1 j u I),fun y hy=>?_⟩;obtain⟨i,J,rfl⟩:=List.mem_iff_getElem.1 hy;exact(O i J).2
theorem B3{H:Type}{enc:TypeId×Value->H}{W:World}{base:Nat}{v:Value}{d:DataW H}{p:List MemPlace}(D:Value.okWide prog W .any base 23 v)(h:DataW.Trod enc prog W 0 (fun _=>true) true 23 v d p):
  ∃(A:Option Addr)(n c:Nat)(l:List my),v=.slice A n c/\l.length=n/\aA W W.heap.size 2 A n (l.flatMap f9)/\∀x∈l,aA W W.heap.size 1 x.2.1 x.2.2.2.size (x.2.2.2.data.toList.flatMap la):=by obtain⟨a1,len,cap,rfl⟩:=okWide_slice underlying23 D;obtain⟨fuel,q⟩:=h;obtain⟨A,n,c,l,I,O,M,J⟩:=DG q;(obtain⟨rfl,rfl,rfl⟩:a1=A/\len=n/\cap=c:=by simpa[Value.cells]using I);exact⟨_,_,_,l,rfl,O,M,J⟩
end
end Go.Proofs.YtcoiialmdncpfaaGreatDoor
