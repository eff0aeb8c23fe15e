/-
  Parts of the proof: Rty2 Rterm Rkit2 Smem. By an AI agent.
-/
import Derived.Test.YtiebcdeafofgdaaGreatDoorJ07
import Derived.Deep.RegionLaw
set_option maxRecDepth 100000
set_option maxHeartbeats 8000000
namespace Go.Proofs.YtiebcdeafofgdaaGreatDoor
section
open Go.RowKit Go.Lib Go.Proofs
attribute [local go_sem ↓] Go.wp_at_zero Go.wp_at_succ
attribute [local go_sem] aG aH aI aW aX aY aZ
theorem uB (a:Array Value) (w:World):(callFunc 131 a).run Tryz.prog w=.ok (.enter 131 a) w:=by kernel_rfl
theorem GU (E:bN) (F:eB) (hF:mA E F):dC E (pu F) 131:=by
 intro w s h hno;generalize z:pu F E.c s=res at *;have M:=hid z;have gs:=hid hno;have ga:=h.lt;have h0:=h.most;clear z hno;(go_enter Tryz.func131,Tryz.ntmps131);(go_wp2_with fail);refine (bw E s _ (h.alloc _)).mono ?_;unfold eO;rintro e w1 ⟨rfl,hh⟩;have gu:=((cw.refl h).alloc _).step hh;have g4:=(aj.new w 24 aV).below hh (by simp);have gx:=g4.lt;clear hh;(go_wp2_with fail);cases hA:aE E.c s (⟨#[40]⟩:BA) with
 | true=>
  have HE:=hid (show (F.typ E.c (adv s)).bind (fun t s1=>(need (⟨#[41]⟩:BA) E.c s1).bind fun _ s2=>.ok t s2)=res by rw [←M.out,pu,if_pos hA]);refine (aQ E s _ w1 gu.rd hA).mono ?_;rintro e w2 ⟨rfl,gm⟩;have gq:=g4.grown gm.gr (fun e=>by injection e with e;omega);have hk:=gu.moved.trans gm;have jh:=gm.gr.size;clear M hA;(go_wp2_with fail);cases J:F.typ E.c (adv s) with
  | out=>exact absurd HE.out.symm (by rw [J];exact gs.out)
  | fail p=>refine (hF.typ w2 (adv s) gm.rd (by rw [J];exact nofun)).mono ?_;rw [J];rintro e w3 ⟨rfl,h5⟩;unfold ag;exact ⟨rfl,af (by rw [←HE.out,J];rfl) hk.gr h5⟩
  | ok n s1=>
   have I:=hid (show (need (⟨#[41]⟩:BA) E.c s1).bind (fun _ s2=>.ok n s2)=res by rw [←HE.out,J];rfl);refine (hF.typ w2 (adv s) gm.rd (by rw [J];exact nofun)).mono ?_;rw [J];rintro e w3 ⟨⟨v,rfl,hv⟩,O⟩;obtain ⟨A,cp,rfl,hC⟩:=hv.toC;have gk:=gq.grown O.gr (fun e=>by injection e with e;omega);have U:=(hk.trans O).alloc (.cells (nv n A cp) 24);have hy:=O.gr.size;have h2:=O.rd.lt;clear J HE O gm hk;(go_wp2_with fail);cases hD:aE E.c s1 (⟨#[41]⟩:BA) with
   | false=>refine (cS E s1 _ _ U.rd hD).mono ?_;rintro e w4 ⟨rfl,hg⟩;unfold ag;exact ⟨rfl,af (by rw [←I.out,need];simp [hD]) U.gr (ai _ hg)⟩
   | true=>have HF:=hid (show res=.ok n (adv s1) by rw [←I.out,need];simp [hD]);refine (ch E s1 _ _ U.rd hD).mono ?_;rintro e w4 ⟨rfl,D⟩;have h7:=(aj.new w3 24 (nv n A cp)).grown D.gr (fun e=>by injection e with e;omega);have y:=(gk.alloc _).grown D.gr (fun e=>by injection e with e;omega);obtain ⟨x0,x1,x2,x3,_,_,_,_⟩:=ac h7;obtain ⟨d0,d1,d2,d3,e0,e1,e2,e3⟩:=ac y;clear hD I;(go_wp2_with fail);refine au HF.out (hv.kept (((ae.refl _ _).alloc _).trans (ae.of_grown D.gr (fun g e hX=>by injection e with e;subst e;omega)))) (U.trans D) y (Nat.le_refl _) ga ?_ rfl (by rfl) rfl;intro b hb;constructor <;> omega
 | false=>
  refine (bh E s _ w1 gu.rd hA).mono ?_;rintro e w2 ⟨rfl,gg⟩;have gq:=g4.below gg.bel gx;replace gg:=gu.step gg.bel;have gw:=gq.lt;clear gu g4 gx;(go_wp2_with fail);cases hB:aE E.c s (⟨#[91]⟩:BA) with
  | true=>
   have HE:=hid (show (need (⟨#[93]⟩:BA) E.c (adv s)).bind (fun _ s1=>(F.typ E.c s1).bind fun t s2=>.ok (.mk 11 (⟨#[]⟩:BA) [t] (an E.c s)) s2)=res by rw [←M.out,pu];simp only [hA,hB,Bool.false_eq_true,if_false,if_true]);refine (aQ E s _ w2 gg.rd hB).mono ?_;rintro e w3 ⟨rfl,O⟩;have gk:=gq.grown O.gr (fun e=>by injection e with e;omega);have U:=gg.moved.trans O;have hy:=O.gr.size;clear M hA hB;(go_wp2_with fail);cases hD:aE E.c (adv s) (⟨#[93]⟩:BA) with
   | false=>refine (cS E (adv s) _ _ U.rd hD).mono ?_;rintro e w4 ⟨rfl,hg⟩;unfold ag;exact ⟨rfl,af (by rw [←HE.out,need];simp [hD]) U.gr (ai _ hg)⟩
   | true=>
    have I:=hid (show (F.typ E.c (adv (adv s))).bind (fun t s2=>.ok (.mk 11 (⟨#[]⟩:BA) [t] (an E.c s)) s2)=res by rw [←HE.out,need];simp only [hD,if_true,cZ.bind_ok]);refine (ch E (adv s) _ _ U.rd hD).mono ?_;rintro e w4 ⟨rfl,D⟩;have y:=gk.grown D.gr (fun e=>by injection e with e;omega);have gp:=U.trans D;have hw:=D.gr.size;clear hD HE U;(go_wp2_with fail);cases J:F.typ E.c (adv (adv s)) with
    | out=>exact absurd I.out.symm (by rw [J];exact gs.out)
    | fail p=>refine (hF.typ w4 _ D.rd (by rw [J];exact nofun)).mono ?_;rw [J];rintro e w5 ⟨rfl,hf⟩;unfold ag;exact ⟨rfl,af (by rw [←I.out,J];rfl) gp.gr hf⟩
    | ok n s2=>have HF:=hid (show res=.ok (.mk 11 (⟨#[]⟩:BA) [n] (an E.c s)) s2 by rw [←I.out,J];rfl);refine (hF.typ w4 _ D.rd (by rw [J];exact nofun)).mono ?_;rw [J];rintro e w5 ⟨⟨v,rfl,hv⟩,N⟩;obtain ⟨A,cp,rfl,hC⟩:=hv.toC;have gj:=y.grown N.gr (fun e=>by injection e with e;omega);have g0:=gp.trans N;have hu:=N.gr.size;have h3:=gj.lt;clear J I D O gp;(go_wp2_with fail);refine (aC _ _ _ _ _ ⟨_,_,_,rfl⟩).mono ?_;rintro e w6 ⟨rfl,gb⟩;have hV:=av.make 1 rfl (ak.one hC) 11 (⟨#[]⟩:BA) (an E.c s) gb;have g3:=(gj.alloc _).below gb (by simp;omega);have hj:=(g0.alloc _).step gb;obtain ⟨d0,d1,d2,d3,e0,e1,e2,e3⟩:=ac g3;clear gb;(go_wp2_with fail);refine au HF.out hV hj g3 (Nat.le_refl _) ga ?_ rfl (by rfl) rfl;rintro b (⟨hb,_⟩ | rfl) <;> constructor <;> omega
  | false=>
   refine (bh E s _ w2 gg.rd hB).mono ?_;rintro e w3 ⟨rfl,ge⟩;have gk:=gq.below ge.bel gw;replace ge:=gg.step ge.bel;have gv:=gk.lt;clear gg gq gw;(go_wp2_with fail);cases hK:aE E.c s (⟨#[102,117,110,99]⟩:BA) with
   | true=>
    have HE:=hid (show cz F (an E.c s) E.c (adv s)=res by rw [←M.out,pu];simp only [hA,hB,hK,Bool.false_eq_true,if_false,if_true]);refine (aQ E s _ w3 ge.rd hK).mono ?_;rintro e w4 ⟨rfl,D⟩;have y:=gk.grown D.gr (fun e=>by injection e with e;omega);have gp:=ge.moved.trans D;have hw:=D.gr.size;clear M hA hB hK;(go_wp2_with fail);refine (mO E F hF _ w4 (adv s) D.rd (by rw [show cz F (am E.c s.at_).pos E.c (adv s)=res from HE.out];exact gs.out)).mono ?_;rw [show cz F (am E.c s.at_).pos E.c (adv s)=res from HE.out];cases z:res with
    | out=>exact absurd z gs.out
    | fail p=>rintro e w5 ⟨rfl,hf⟩;unfold ag;exact ⟨rfl,af rfl gp.gr hf⟩
    | ok n s2=>rintro e w5 ⟨⟨v,rfl,hv⟩,N⟩;obtain ⟨A,cp,rfl,hC⟩:=hv.toC;have gj:=y.grown N.gr (fun e=>by injection e with e;omega);obtain ⟨d0,d1,d2,d3,e0,e1,e2,e3⟩:=ac gj;have HF:=hid z;clear HE z gs;(go_wp2_with fail);refine au HF.out hv (gp.trans N) gj (Nat.le_refl _) ga ?_ rfl (by rfl) rfl;intro b hb;constructor <;> omega
   | false=>
    refine (bh E s _ w3 ge.rd hK).mono ?_;rintro e w4 ⟨rfl,gd⟩;have y:=gk.below gd.bel gv;replace gd:=ge.step gd.bel;have h4:=y.lt;have HE:=hid (show (bQ E.c s).bind (fun x s1=>if aE E.c s1 (⟨#[91]⟩:BA) && !dq E.c s1 then (aO F.typ (⟨#[93]⟩:BA) F.g [] E.c (adv s1)).bind fun l s2=>if l.length=0 then .fail (an E.c s2) else .ok (.mk 10 x l (an E.c s)) s2 else .ok (.mk 10 x [] (an E.c s)) s1)=res by rw [←M.out,pu];simp only [hA,hB,hK,Bool.false_eq_true,if_false]);clear ge gk gv hA hB hK M;(go_wp2_with fail);by_cases hN:(am E.c s.at_).kind=1
    case neg=>refine (i9 E s w4 gd.rd hN).mono ?_;rintro e w5 ⟨rfl,h6⟩;unfold ag;exact ⟨rfl,af (by rw [←HE.out,bQ,if_neg hN];rfl) gd.moved.gr (ai _ h6)⟩
    have I:=hid (show (if aE E.c (adv s) (⟨#[91]⟩:BA) && !dq E.c (adv s) then (aO F.typ (⟨#[93]⟩:BA) F.g [] E.c (adv (adv s))).bind fun l s2=>if l.length=0 then .fail (an E.c s2) else .ok (.mk 10 (am E.c s.at_).text l (an E.c s)) s2 else .ok (.mk 10 (am E.c s.at_).text [] (an E.c s)) (adv s))=res by rw [←HE.out,bQ,if_pos hN];rfl);refine (fM E s w4 gd.rd hN).mono ?_;rintro e w5 ⟨rfl,N⟩;have gj:=y.grown N.gr (fun e=>by injection e with e;omega);have g0:=gd.moved.trans N;have hu:=N.gr.size;clear HE hN N gd y;generalize (am E.c s.at_).text=tx at *;(go_wp2_with fail);refine (aC _ _ _ _ _ ⟨_,_,_,rfl⟩).mono ?_;rintro e w6 ⟨rfl,gb⟩;have g3:=gj.below gb (by omega);have hj:=g0.step gb;have jg:=gb.size;clear gb gj g0;(go_wp2_with fail);have hp:=aj.new w6 24 #[.int .i64 10,.string tx,.slice none 0 0,.int .i64 (an E.c s)];have hq:=g3.alloc (.cells #[.int .i64 10,.string tx,.slice none 0 0,.int .i64 (an E.c s)] 24);have hi:=hj.alloc (.cells #[.int .i64 10,.string tx,.slice none 0 0,.int .i64 (an E.c s)] 24);refine (bo E (adv s) _ _ hi.rd).mono ?_;rintro e w8 ⟨rfl,gy⟩;have hm:=hp.below gy (by simp);have g2:=hq.below gy (by simp;omega);have gz:=hi.step gy;(have jf:w6.heap.size+1≤w8.heap.size:=by have:=gy.size;simp at this;omega);clear hp hq hi gy;cases hI:aE E.c (adv s) (⟨#[91]⟩:BA) with
    | false=>have HF:=hid (show res=.ok (.mk 10 tx [] (an E.c s)) (adv s) by rw [←I.out];simp [hI]);obtain ⟨x0,x1,x2,x3,_,_,_,_⟩:=ac hm;obtain ⟨d0,d1,d2,d3,e0,e1,e2,e3⟩:=ac g2;clear I;(go_wp2_with fail);refine au (X:=fun _=>False) HF.out (av.leaf _ _ _) gz g2 (Nat.le_refl _) ga ?_ rfl (by rfl) rfl;exact fun _ h=>h.elim
    | true=>
     (go_wp2_with fail);refine (ot E (adv s) _ gz.rd).mono ?_;rintro e w9 ⟨rfl,gt⟩;have hl:=hm.below gt.bel (by omega);have g1:=g2.below gt.bel (by omega);have gn:=gz.trans gt.moved;have je:=gt.bel.size;clear hm g2 gz gt;cases hJ:dq E.c (adv s) with
     | true=>have HF:=hid (show res=.ok (.mk 10 tx [] (an E.c s)) (adv s) by rw [←I.out];simp [hI,hJ]);obtain ⟨x0,x1,x2,x3,_,_,_,_⟩:=ac hl;obtain ⟨d0,d1,d2,d3,e0,e1,e2,e3⟩:=ac g1;clear I;(go_wp2_with fail);refine au (X:=fun _=>False) HF.out (av.leaf _ _ _) gn g1 (Nat.le_refl _) ga ?_ rfl (by rfl) rfl;exact fun _ h=>h.elim
     | false=>
      have g6:=hid (show (aO F.typ (⟨#[93]⟩:BA) F.g [] E.c (adv (adv s))).bind (fun l s2=>if l.length=0 then .fail (an E.c s2) else .ok (.mk 10 tx l (an E.c s)) s2)=res by rw [←I.out];simp [hI,hJ]);have jd:=nE gn.rd hI;obtain ⟨c0,c1,c2,c3,c4,f0⟩:=gn.rd.cells;have f1:=f0 1;have h1:=gn.rd.lt;clear I hI hJ f0;(go_wp2_with fail);have gi:=gn.setAt ((adv s).at_+1) (by omega);have g9:=hl.far (p:=⟨E.R,1,none⟩) (by show w6.heap.size≠E.R;omega) (.int .i64 (((adv s).at_+1:Nat):Int));have he:=g1.far (p:=⟨E.R,1,none⟩) (by show w.heap.size≠E.R;omega) (.int .i64 (((adv s).at_+1:Nat):Int));(have ja:w9.heap.size≤(w9.setCell ⟨E.R,1,none⟩ (.int .i64 (((adv s).at_+1:Nat):Int))).heap.size:=by simp);clear hl g1 gn c0 c1 c2 c3 c4 f1;cases J:aO F.typ (⟨#[93]⟩:BA) F.g [] E.c (adv (adv s)) with
      | out=>exact absurd g6.out.symm (by rw [J];exact gs.out)
      | fail q=>refine (fN E 131 #[.pointer (some ⟨E.R,0,none⟩)] #[] F.typ (⟨#[93]⟩:BA) F.g (adv (adv s)) _ gi.rd uB (hF.typ.part _) (by rw [J];exact nofun) hF.g).mono ?_;rw [J];rintro e w11 ⟨rfl,hn⟩;unfold ag;exact ⟨rfl,af (by rw [←g6.out,J];rfl) gi.gr hn⟩
      | ok l s2=>
       have g5:=hid (show (if l.length=0 then .fail (an E.c s2) else .ok (.mk 10 tx l (an E.c s)) s2)=res by rw [←g6.out,J];rfl);refine (fN E 131 #[.pointer (some ⟨E.R,0,none⟩)] #[] F.typ (⟨#[93]⟩:BA) F.g (adv (adv s)) _ gi.rd uB (hF.typ.part _) (by rw [J];exact nofun) hF.g).mono ?_;rw [J];rintro e w11 ⟨⟨v,rfl,hv⟩,gh⟩;have g8:=g9.grown gh.gr (fun e=>by injection e with e;omega);have ha:=he.grown gh.gr (fun e=>by injection e with e;omega);have g7:=gi.trans gh;have h8:=gh.gr.size;have ht:=hv.mono (Y:=fun b=>w6.heap.size+1≤b) (fun b hb _=>by omega);obtain ⟨A,cp,xs,rfl,_,_,_⟩:=hv;obtain ⟨x0,x1,x2,x3,y0,y1,y2,y3⟩:=ac g8;have jc:=g8.lt;clear g6 J g9 he gi gh;by_cases hz:l.length=0
       ·have HF:=hid (show res=.fail (an E.c s2) by rw [←g5.out,if_pos hz]);(have hr:((l.length:Int)==0)=true:=by rw [hz];rfl);clear g5 hz;(go_wp2_with fail);have gl:=g7.own (p:=⟨w6.heap.size,2,none⟩) (by show w.heap.size≤w6.heap.size;omega) (by show E.R<w6.heap.size;omega) (.slice A l.length cp);refine (dB E s2 _ gl.rd).mono ?_;rintro e w13 ⟨rfl,ho⟩;unfold ag;exact ⟨rfl,af HF.out gl.gr (ai _ ho)⟩
       ·have HF:=hid (show res=.ok (.mk 10 tx l (an E.c s)) s2 by rw [←g5.out,if_neg hz]);(have hr:((l.length:Int)==0)=false:=by rw [beq_eq_false_iff_ne];omega);obtain ⟨d0,d1,d2,d3,e0,e1,e2,e3⟩:=ac ha;(have jb:w.heap.size≠w6.heap.size:=by omega);clear g5 hz;(go_wp2_with fail);have gl:=g7.own (p:=⟨w6.heap.size,2,none⟩) (by show w.heap.size≤w6.heap.size;omega) (by show E.R<w6.heap.size;omega) (.slice A l.length cp);refine au (X:=fun b=>w6.heap.size+1≤b) HF.out ?_ gl (ha.far (p:=⟨w6.heap.size,2,none⟩) (by show w.heap.size≠w6.heap.size;omega) (.slice A l.length cp)) (Nat.le_refl _) ga ?_ rfl (by rfl) rfl
        ·exact (av.of_slice ht 10 tx (an E.c s)).kept ((ae.refl _ _).setCell (fun hX=>by simp at hX;omega) _)
        ·intro b hb;constructor <;> omega
theorem px (E:bN) (F:eB) (hF:mA E F):dC E (ij F) 216:=by
 intro w s h hno;generalize hres:ij F E.c s=res at *;have N:=hid hres;have gl:=hid hno;have gb:=h.lt;clear hres hno;(go_enter Tryz.func216,Tryz.ntmps216);(go_wp2_with fail);refine (bw E s _ (h.alloc _)).mono ?_;unfold eO;rintro e w1 ⟨rfl,gh⟩;have O:=((cw.refl h).alloc _).step gh;have z:=(aj.new w 24 aV).below gh (by simp);have ge:=z.lt;clear gh;(go_wp2_with fail);cases hA:aE E.c s (⟨#[126]⟩:BA) with
 | true=>
  have HE:=hid (show (F.typ E.c (adv s)).bind (fun t s1=>.ok (.mk 15 (⟨#[126]⟩:BA) [t] (an E.c s)) s1)=res by rw [←N.out,ij,if_pos hA]);refine (aQ E s _ w1 O.rd hA).mono ?_;rintro e w2 ⟨rfl,U⟩;have gk:=z.grown U.gr (fun e=>by injection e with e;omega);have J:=O.moved.trans U;have gn:=U.gr.size;clear N hA z O;(go_wp2_with fail);cases M:F.typ E.c (adv s) with
  | out=>exact absurd HE.out.symm (by rw [M];exact gl.out)
  | fail p=>refine (hF.typ w2 _ U.rd (by rw [M];exact nofun)).mono ?_;rw [M];rintro e w3 ⟨rfl,gg⟩;unfold ag;exact ⟨rfl,af (by rw [←HE.out,M];rfl) J.gr gg⟩
  | ok n s1=>have HF:=hid (show res=.ok (.mk 15 (⟨#[126]⟩:BA) [n] (an E.c s)) s1 by rw [←HE.out,M];rfl);refine (hF.typ w2 _ U.rd (by rw [M];exact nofun)).mono ?_;rw [M];rintro e w3 ⟨⟨v,rfl,hv⟩,D⟩;obtain ⟨A,cp,rfl,hC⟩:=hv.toC;have y:=gk.grown D.gr (fun e=>by injection e with e;omega);have gj:=J.trans D;have gm:=D.gr.size;have gd:=y.lt;clear M HE U D J;(go_wp2_with fail);refine (aC _ _ _ _ _ ⟨_,_,_,rfl⟩).mono ?_;rintro e w4 ⟨rfl,I⟩;have hV:=av.make 1 rfl (ak.one hC) 15 (⟨#[126]⟩:BA) (an E.c s) I;have q:=(y.alloc _).below I (by simp;omega);have gi:=(gj.alloc _).step I;obtain ⟨d0,d1,d2,d3,e0,e1,e2,e3⟩:=ac q;clear I;(go_wp2_with fail);refine au HF.out hV gi q (Nat.le_refl _) gb ?_ rfl (by rfl) rfl;rintro b (⟨hb,_⟩ | rfl) <;> constructor <;> omega
 | false=>
  have HE:=hid (show (F.typ E.c s).bind (fun t s1=>.ok (.mk 15 (⟨#[]⟩:BA) [t] (an E.c s)) s1)=res by rw [←N.out,ij];simp only [hA,Bool.false_eq_true,if_false]);refine (bh E s _ w1 O.rd hA).mono ?_;rintro e w2 ⟨rfl,ga⟩;have gk:=z.below ga.bel ge;have J:=O.moved.trans ga.moved;have gn:=ga.bel.size;clear N hA z O;(go_wp2_with fail);cases M:F.typ E.c s with
  | out=>exact absurd HE.out.symm (by rw [M];exact gl.out)
  | fail p=>refine (hF.typ w2 _ J.rd (by rw [M];exact nofun)).mono ?_;rw [M];rintro e w3 ⟨rfl,gg⟩;unfold ag;exact ⟨rfl,af (by rw [←HE.out,M];rfl) J.gr gg⟩
  | ok n s1=>have HF:=hid (show res=.ok (.mk 15 (⟨#[]⟩:BA) [n] (an E.c s)) s1 by rw [←HE.out,M];rfl);refine (hF.typ w2 _ J.rd (by rw [M];exact nofun)).mono ?_;rw [M];rintro e w3 ⟨⟨v,rfl,hv⟩,D⟩;obtain ⟨A,cp,rfl,hC⟩:=hv.toC;have y:=gk.grown D.gr (fun e=>by injection e with e;omega);have gj:=J.trans D;have gm:=D.gr.size;have gd:=y.lt;clear M HE ga D J;(go_wp2_with fail);refine (aC _ _ _ _ _ ⟨_,_,_,rfl⟩).mono ?_;rintro e w4 ⟨rfl,I⟩;have hV:=av.make 1 rfl (ak.one hC) 15 (⟨#[]⟩:BA) (an E.c s) I;have q:=(y.alloc _).below I (by simp;omega);have gi:=(gj.alloc _).step I;obtain ⟨d0,d1,d2,d3,e0,e1,e2,e3⟩:=ac q;clear I;(go_wp2_with fail);refine au HF.out hV gi q (Nat.le_refl _) gb ?_ rfl (by rfl) rfl;rintro b (⟨hb,_⟩ | rfl) <;> constructor <;> omega
end
section
open Go.RowKit Go.Lib Go.Proofs
structure eY (B:Nat) (Z:Nat→Prop) (w:World) (v:Value) (l:List Nd):Prop where
 out:∃ xs,w.ownsRow B 24 4 v l.length xs∧ak (fun b=>B≤b∧some b≠v.ownBlock∧¬ Z b) w l xs
 far:∀ g,v.ownBlock=some g→¬ Z g
section
variable {B:Nat} {Z:Nat→Prop} {w w':World} {v:Value} {l:List Nd}
theorem eY.nil (B:Nat) (Z:Nat→Prop) (w:World):eY B Z w (.slice none 0 0) []:=⟨⟨[],World.ownsRow_nil _ _ _ _,ak.nil⟩,fun g h=>by simp [Value.ownBlock] at h⟩
theorem eY.keep (h:eY B Z w v l) (J:∀ b,B≤b→¬ Z b→b<w.heap.size→w'.heap[b]? = w.heap[b]?):eY B Z w' v l:=by
 obtain ⟨xs,N,O⟩:=h.out;refine ⟨⟨xs,⟨N.1,?_⟩,O.keep fun b hb D=>J b hb.1 hb.2.2 D⟩,h.far⟩;rcases N.2 with U | ⟨g,cap,cur,e,M,I,r⟩
 ·exact .inl U
 ·refine .inr ⟨g,cap,cur,e,M,?_,r⟩;have D:g<w.heap.size:=by
   rcases Nat.lt_or_ge g w.heap.size with D | hge
   ·exact D
   ·rw [Array.getElem?_eq_none hge] at I;cases I
  exact (J g M (h.far g (by rw [e];rfl)) D).trans I
theorem eY.kept (h:eY B Z w v l) (D:ae (fun b=>B≤b∧¬ Z b) w w'):eY B Z w' v l:=h.keep fun b J I h3=>D.block b ⟨J,I⟩ h3
theorem eY.grown {R:Nat} (h:eY B Z w v l) (D:w.grownBy w' (some R)) (I:R<B):eY B Z w' v l:=
 h.keep fun b hb _ hlt=>D.block b hlt (fun e=>by injection e;omega)
theorem eY.lt (h:eY B Z w v l):∀ g,v.ownBlock=some g→B≤g∧g<w.heap.size:=by obtain ⟨xs,D,_⟩:=h.out;exact fun g hg=>D.lt g hg
theorem eY.values (h:eY B Z w v l):cR (fun b=>B≤b∧¬ Z b) w v l:=by
 obtain ⟨xs,D,J⟩:=h.out;rcases D.2 with ⟨rfl,y⟩ | ⟨g,cap,cur,rfl,q,U,I,_,N,M⟩
 ·exact ⟨none,0,xs,by rw [y],by omega,⟨D.1,fun h=>by omega⟩,J.mono fun b hb _=>⟨hb.1,hb.2.2⟩⟩
 ·refine ⟨_,cap,xs,rfl,I,⟨D.1,fun _=>⟨g,0,rfl,⟨q,h.far g rfl⟩,fun j u hu=>?_⟩⟩,J.mono fun b hb _=>⟨hb.1,hb.2.2⟩⟩;(have O:j<l.length * 4:=by have:=(List.getElem?_eq_some_iff.1 hu).1;rw [D.1] at this;exact this);rw [Nat.zero_add];unfold World.cell?;rw [U];simp only [Option.isSome_none,Bool.false_eq_true,if_false];rw [←M,List.getElem?_take_of_lt O] at hu;rw [←hu];simp
theorem eY.form (h:eY B Z w v l):∃ A c,v=.slice A l.length c∧l.length≤c:=by obtain ⟨A,c,xs,e,D,_⟩:=h.values;exact ⟨A,c,e,D⟩
theorem eY.one {K S:Nat} {n:Nd} {a b c d:Value} {w1:World} (hb:aj w K 24 #[a,b,c,d]) (I:B≤K) (hK:w1.heap.size=K) (O:bD (fun b=>S≤b) w1 n [a,b,c,d]) (U:B≤S)
  (N:∀ b,S≤b→b<w1.heap.size→w.heap[b]? = w1.heap[b]?) (J:∀ b,S≤b→b≤K→¬ Z b) (D:S≤K):eY B Z w (.slice (some ⟨K,0,none⟩) 1 1) [n]:=by
 refine ⟨⟨[a,b,c,d],⟨rfl,.inr ⟨K,1,#[a,b,c,d],rfl,I,hb,Nat.le_refl _,by unfold maxLen;omega,rfl,rfl⟩⟩,?_⟩,fun g hg=>?_⟩
 ·have q:=ak.one (O.mono (Y:=fun b=>S≤b∧b<K) fun b hb hlt=>⟨hb,by omega⟩);have h:=q.keep (w':=w) fun b hb hlt=>N b hb.1 hlt;refine h.mono fun b hb _=>⟨by omega,fun e=>?_,J b hb.1 (by omega)⟩;(have M:b=K:=by simpa [Value.ownBlock] using e);omega
 ·(have M:K=g:=by simpa [Value.ownBlock] using hg);subst M;exact J K D (Nat.le_refl _)
end
structure CT (E:bN) (s:St) (B:Nat) (Z:Nat→Prop) (w w1 w2:World) (v':Value) (l:List Nd):Prop where
 own:eY B Z w2 v' l
 mov:ar E s w w2
 old:∀ b,b<w1.heap.size→(Z b∨b<B)→w2.heap[b]? = w1.heap[b]?
 le:w1.heap.size≤w2.heap.size
theorem EK {o:Oper} {a:Act} {K:Act→World→Prop} {Q:Exit→Act→World→Prop} (s x:Operand)
  (ho:o.op=.call { callee:=.builtin .append,args:=#[s,x],argTypes:=#[22,22] })
  (E:bN) (st:St) (B S:Nat) (Z:Nat→Prop) (w w1:World) (u:Value) (l:List Nd) (n:Nd) (A:Option Addr) (cap:Nat) (hs:a.eval s=u) (hx:a.eval x=.slice (some ⟨w1.heap.size,0,none⟩) 1 1)
  (z:eY B Z w1 u l) (I:ar E st w w1) (gi:w.heap.size≤B) (hR:E.R<B) (hB:B≤S) (hS:S≤w1.heap.size) (hZ:∀ b,Z b→b<S) (hu:∀ g,u.ownBlock=some g→g<S) (hl:l.length≤1000000)
  (hV:bD (fun b=>S≤b) w1 n [.int .i64 n.kind,.string n.text,.slice A n.kids.length cap,.int .i64 n.pos])
  (h:∀ g c w2,CT E st B Z w w1 w2 (.slice (some ⟨g,0,none⟩) (l.length+1) c) (l++[n])→K (a.put o.dst (.slice (some ⟨g,0,none⟩) (l.length+1) c)) w2) :
  o.wp Tryz.prog a (w1.alloc (.cells (nv n A cap) 24)) K Q:=by
 obtain ⟨i0,hi,gd,gb,ga⟩:=info_parts mM;obtain ⟨xs,O,gg⟩:=z.out;refine wp_append_lies _ s x 22 ho B 24 i0 _ 4 56 Tryz.underlying22 hi gd gb ga rfl (by omega) u l.length xs hs (O.alloc _) ⟨w1.heap.size,0,none⟩ 1 1 [.int .i64 n.kind,.string n.text,.slice A n.kids.length cap,.int .i64 n.pos] hx rfl
  (World.news_of_block (cs:=(nv n A cap)) (heap_alloc_new _ _)) (nF n A cap) (by omega) (by unfold maxLen;omega) (by omega) (by rw [World.size_alloc];omega) _ rfl ?_
 intro g c w2 hown1 N y _;have ge:∀ g,u.ownBlock=some g→B≤g:=fun g N=>(z.lt g N).1;have J:∀ b,b<w1.heap.size→some b≠u.ownBlock→w2.heap[b]? = w1.heap[b]? := fun b hb hne=>(N.block b (by rw [World.size_alloc];omega) hne).trans (Below.heap_alloc w1 _ b hb);have hold:∀ b,b<w1.heap.size→(Z b∨b<B)→w2.heap[b]? = w1.heap[b]? := fun b hb gh=>J b hb (fun e=>by
  rcases gh with h | h
  ·exact z.far b e.symm h
  ·have:=ge b e.symm;omega)
 have U:w1.heap.size≤w2.heap.size:=Nat.le_trans (by rw [World.size_alloc];omega) N.size;have q:¬ Z g:=by
  rcases y with e | e
  ·exact z.far g e
  ·rw [World.size_alloc] at e;intro hz;have:=hZ g hz;omega
 have M:ak (fun b=>B≤b∧some b≠(Value.slice (some ⟨g,0,none⟩) (l.length+1) c).ownBlock∧¬ Z b) w2 (l++[n]) (xs++[.int .i64 n.kind,.string n.text,.slice A n.kids.length cap,.int .i64 n.pos]):=by
  have h1:ak (fun b=>B≤b∧some b≠u.ownBlock∧¬ Z b∧b<w1.heap.size) w1 (l++[n]) (xs++[.int .i64 n.kind,.string n.text,.slice A n.kids.length cap,.int .i64 n.pos]):=
   (gg.mono fun b hb D=>⟨hb.1,hb.2.1,hb.2.2,D⟩).app (ak.one (hV.mono fun b hb D=>⟨Nat.le_trans hB hb,fun e=>by have:=hu b e.symm;omega,fun hz=>by have:=hZ b hz;omega,D⟩))
  have h2:=h1.keep (w':=w2) fun b hb D=>J b D hb.2.1;refine h2.mono fun b hb _=>⟨hb.1,fun e=>?_,hb.2.2.1⟩;(have e3:b=g:=by simpa [Value.ownBlock] using e);subst e3;rcases y with e | e
  ·exact hb.2.1 e.symm
  ·rw [World.size_alloc] at e;have:=hb.2.2.2;omega
 refine h g c w2 ⟨⟨⟨_,by rw [List.length_append];exact hown1,M⟩,fun g' hg'=>?_⟩,⟨I.rd.keep fun b hb=>?_,?_⟩,hold,U⟩
 ·(have e3:g=g':=by simpa [Value.ownBlock] using hg');rw [←e3];exact q
 ·exact hold b (Nat.lt_of_le_of_lt hb I.rd.lt) (.inr (by omega))
 ·refine ⟨N.os.trans I.gr.os,N.tape.trans I.gr.tape,N.output.trans I.gr.output,Nat.le_trans I.gr.size U,fun k hk hne=>?_⟩;exact (hold k (Nat.lt_of_lt_of_le hk I.gr.size) (.inr (by omega))).trans (I.gr.block k hk hne)
theorem eD {ops:Array Oper} {o:Oper} {a:Act} {K:Act→World→Prop} {Q:Exit→Act→World→Prop} {D:Prop} (J:o.guard=none) (s x:Operand)
  (U:o.op=.call { callee:=.builtin .append,args:=#[s,x],argTypes:=#[22,22] })
  (E:bN) (st:St) (B S:Nat) (Z:Nat→Prop) (w w1:World) (u:Value) (l:List Nd) (n:Nd) (A:Option Addr) (cap:Nat) (hs:a.eval s=u) (M:a.eval x=.slice (some ⟨w1.heap.size,0,none⟩) 1 1)
  (hO:eY B Z w1 u l) (q:ar E st w w1) (I:w.heap.size≤B) (hR:E.R<B) (hB:B≤S) (hS:S≤w1.heap.size) (z:∀ b,Z b→b<S) (O:∀ g,u.ownBlock=some g→g<S) (y:l.length≤1000000)
  (hV:bD (fun b=>S≤b) w1 n [.int .i64 n.kind,.string n.text,.slice A n.kids.length cap,.int .i64 n.pos])
  (h:∀ g c w2,CT E st B Z w w1 w2 (.slice (some ⟨g,0,none⟩) (l.length+1) c) (l++[n])→K (a.put o.dst (.slice (some ⟨g,0,none⟩) (l.length+1) c)) w2) :
  if Region.wanted o (yielded ops a.tmps)=true then Oper.wp Tryz.prog o a (w1.alloc (.cells (nv n A cap) 24)) K Q else D:=by (have N:Region.wanted o (yielded ops a.tmps)=true:=by simp [Region.wanted,J]);rw [if_pos N];exact EK s x U E st B S Z w w1 u l n A cap hs M hO q I hR hB hS z O y hV h
end
section
open Go.RowKit Go.Lib Go.Proofs
attribute [local go_sem ↓] Go.wp_at_zero Go.wp_at_succ
theorem GV:(Tryz.prog.info? 43).map (fun i=>(i.zero,i.size,i.bytes))=some (some (.agg #[.int .i64 0,.string ⟨#[]⟩,.int .i64 0]),3,32):=by kernel_rfl
theorem EL (l:List bE):∀ u∈l.flatMap mx,u.oneCell'=true:=by intro u hu;obtain ⟨x,_,D⟩:=List.mem_flatMap.1 hu;unfold mx at D;simp only [List.mem_cons,List.not_mem_nil,or_false] at D;rcases D with rfl | rfl | rfl <;> rfl
def io (B:Nat) (w:World) (v:Value) (l:List bE):Prop:=w.ownsRow B 43 3 v l.length (l.flatMap mx)
section
variable {B:Nat} {w w':World} {v:Value} {l:List bE}
theorem io.nil (B:Nat) (w:World):io B w (.slice none 0 0) []:=World.ownsRow_nil _ _ _ _
theorem io.keep (h:io B w v l) (M:∀ b,B≤b→b<w.heap.size→w'.heap[b]? = w.heap[b]?):io B w' v l:=by
 refine ⟨h.1,?_⟩;rcases h.2 with N | ⟨g,cap,cur,e,J,I,r⟩
 ·exact .inl N
 ·refine .inr ⟨g,cap,cur,e,J,?_,r⟩;have D:g<w.heap.size:=by
   rcases Nat.lt_or_ge g w.heap.size with D | hge
   ·exact D
   ·rw [Array.getElem?_eq_none hge] at I;cases I
  exact (M g J D).trans I
theorem io.below (h:io B w v l) (hb:Below w.heap.size w w'):io B w' v l:=h.keep fun b _ hlt=>hb.block b hlt
theorem io.lt (h:io B w v l):∀ g,v.ownBlock=some g→B≤g∧g<w.heap.size:=fun g hg=>World.ownsRow.lt h g hg
theorem io.form (h:io B w v l):∃ A c,v=.slice A l.length c∧l.length≤c:=by
 rcases h.2 with ⟨rfl,I⟩ | ⟨g,cap,cur,rfl,_,_,D,_⟩
 ·exact ⟨none,0,by rw [I],by omega⟩
 ·exact ⟨_,cap,rfl,D⟩
end
structure yP (B:Nat) (w1 w2:World) (u v':Value) (l':List bE):Prop where
 own:io B w2 v' l'
 bel:Below B w1 w2
 keep:∀ b,b<w1.heap.size→u.ownBlock≠some b→w2.heap[b]? = w1.heap[b]?
 at_:v'.ownBlock=u.ownBlock∨∃ g,v'.ownBlock=some g∧w1.heap.size≤g
theorem yQ {o:Oper} {a:Act} {K:Act→World→Prop} {Q:Exit→Act→World→Prop} (s x:Operand)
  (y:o.op=.call { callee:=.builtin .append,args:=#[s,x],argTypes:=#[38,38] })
  (B:Nat) (w1:World) (u:Value) (l:List bE) (t:bE) (hs:a.eval s=u) (S:Nat) (q:a.eval x=.slice (some ⟨S,0,none⟩) 1 1) (hS:w1.heap.size=S)
  (U:io B w1 u l) (hB:B≤w1.heap.size) (hl:l.length≤1000000)
  (h:∀ g c w2,yP B w1 w2 u (.slice (some ⟨g,0,none⟩) (l.length+1) c) (l++[t])→K (a.put o.dst (.slice (some ⟨g,0,none⟩) (l.length+1) c)) w2) :
  o.wp Tryz.prog a (w1.alloc (.cells #[.int .i64 t.kind,.string t.text,.int .i64 t.pos] 43)) K Q:=by
 subst hS;obtain ⟨i0,z,M,J,I⟩:=info_parts GV;refine wp_append_lies _ s x 38 y B 43 i0 _ 3 32 Tryz.underlying38 z M J I rfl (by omega) u l.length _ hs (World.ownsRow.alloc U _) ⟨w1.heap.size,0,none⟩ 1 1 [.int .i64 t.kind,.string t.text,.int .i64 t.pos] q rfl
  (World.news_of_block (cs:=#[.int .i64 t.kind,.string t.text,.int .i64 t.pos]) (heap_alloc_new _ _)) (EL [t]) (by omega) (by unfold maxLen;omega) (by omega) (by rw [World.size_alloc];omega) _ rfl ?_
 intro g c w2 hown1 D N _;(have e:(l++[t]).flatMap mx=l.flatMap mx++[.int .i64 t.kind,.string t.text,.int .i64 t.pos]:=by rw [List.flatMap_append];rfl);have O:∀ b,b<w1.heap.size→u.ownBlock≠some b→w2.heap[b]? = w1.heap[b]? := fun b hb hu=>
  (D.block b (by rw [World.size_alloc];omega) (fun e=>hu e.symm)).trans (Below.heap_alloc w1 _ b hb)
 (have hb:Below B w1 w2:=by have h1:=(Below.refl B w1).alloc hB (.cells #[.int .i64 t.kind,.string t.text,.int .i64 t.pos] 43);exact h1.trans ⟨D.os,D.tape,D.output,D.size,fun k O=>D.block k (by rw [World.size_alloc];omega) (fun e=>by have:=(U.lt k e.symm).1;omega)⟩);refine h g c w2 ⟨?_,hb,O,?_⟩
 ·unfold io;rw [e,List.length_append];exact hown1
 ·rcases N with e | e
  ·exact .inl e.symm
  ·exact .inr ⟨g,rfl,by rw [e,World.size_alloc];omega⟩
theorem lD {ops:Array Oper} {o:Oper} {a:Act} {K:Act→World→Prop} {Q:Exit→Act→World→Prop} {D:Prop} (I:o.guard=none) (s x:Operand)
  (N:o.op=.call { callee:=.builtin .append,args:=#[s,x],argTypes:=#[38,38] })
  (B:Nat) (w1:World) (u:Value) (l:List bE) (t:bE) (hs:a.eval s=u) (S:Nat) (J:a.eval x=.slice (some ⟨S,0,none⟩) 1 1) (U:w1.heap.size=S)
  (q:io B w1 u l) (y:B≤w1.heap.size) (O:l.length≤1000000)
  (h:∀ g c w2,yP B w1 w2 u (.slice (some ⟨g,0,none⟩) (l.length+1) c) (l++[t])→K (a.put o.dst (.slice (some ⟨g,0,none⟩) (l.length+1) c)) w2) :
  if Region.wanted o (yielded ops a.tmps)=true then Oper.wp Tryz.prog o a (w1.alloc (.cells #[.int .i64 t.kind,.string t.text,.int .i64 t.pos] 43)) K Q else D:=by (have M:Region.wanted o (yielded ops a.tmps)=true:=by simp [Region.wanted,I]);rw [if_pos M];exact yQ s x N B w1 u l t hs S J U q y O h
theorem wM {ops:Array Oper} {rest:List Oper} {o:Oper} {a:Act} {Q:Exit→Act→World→Prop} (D:o.guard=none) (s x:Operand)
  (J:o.op=.call { callee:=.builtin .append,args:=#[s,x],argTypes:=#[38,38] })
  (B:Nat) (w1:World) (u:Value) (l:List bE) (t:bE) (hs:a.eval s=u) (S:Nat) (I:a.eval x=.slice (some ⟨S,0,none⟩) 1 1) (N:w1.heap.size=S)
  (O:io B w1 u l) (U:B≤w1.heap.size) (M:l.length≤1000000)
  (h:∀ g c w2,yP B w1 w2 u (.slice (some ⟨g,0,none⟩) (l.length+1) c) (l++[t])→wpList Tryz.prog ops Q rest (a.put o.dst (.slice (some ⟨g,0,none⟩) (l.length+1) c)) w2) :
  wpList Tryz.prog ops Q (o::rest) a (w1.alloc (.cells #[.int .i64 t.kind,.string t.text,.int .i64 t.pos] 43)):=
 wpList_plain D fun _ hK=>yQ s x J B w1 u l t hs S I N O U M fun g c w2 h1=>hK _ _ (h g c w2 h1)
def ou (s:ByteArray) (i:Nat) (lv nv:Value):Array Value:=#[.string s,.int .i64 (i:Int),lv,nv]
structure BM (w:World) (X:Nat) (s:ByteArray) (i:Nat) (l:List bE) (lv nv:Value) (ns:List bE):Prop where
 blk:aj w X 67 (ou s i lv nv)
 toks:io (X+1) w lv l
 notes:io (X+1) w nv ns
 apart:∀ g,lv.ownBlock=some g→nv.ownBlock=some g→False
 nfew:ns.length≤i
structure fd (w:World) (X:Nat) (s:ByteArray) (i:Nat) (l:List bE):Prop where
 out:∃ lv nv ns,BM w X s i l lv nv ns
 le:i≤s.size
 most:s.size≤65536
 few:l.length≤65537
section
variable {w w':World} {X:Nat} {s:ByteArray} {i:Nat} {l:List bE} {lv nv:Value} {ns:List bE}
theorem BM.keep (h:BM w X s i l lv nv ns) (D:∀ b,X≤b→b<w.heap.size→w'.heap[b]? = w.heap[b]?):BM w' X s i l lv nv ns:=
 ⟨(D X (Nat.le_refl _) h.blk.lt).trans h.blk,h.toks.keep fun b hb hlt=>D b (by omega) hlt,h.notes.keep fun b hb hlt=>D b (by omega) hlt,h.apart,h.nfew⟩
theorem BM.below (h:BM w X s i l lv nv ns) (hb:Below w.heap.size w w'):BM w' X s i l lv nv ns:=h.keep fun b _ hlt=>hb.block b hlt
theorem BM.set (h:BM w X s i l lv nv ns) (j:Nat) (D:i≤j):BM (w.setCell ⟨X,1,none⟩ (.int .i64 (j:Int))) X s j l lv nv ns:=
 ⟨by simpa [ou] using h.blk.set_ 1 (.int .i64 (j:Int)),h.toks.keep fun b hb _=>Below.heap_setCell w ⟨X,1,none⟩ _ b (by show b≠X;omega),
  h.notes.keep fun b hb _=>Below.heap_setCell w ⟨X,1,none⟩ _ b (by show b≠X;omega),h.apart,Nat.le_trans h.nfew D⟩
theorem BM.row (h:BM w X s i l lv nv ns) {w2:World} {lv':Value} {l':List bE} (I:yP (X+1) w w2 lv lv' l'):BM (w2.setCell ⟨X,2,none⟩ lv') X s i l' lv' nv ns:=by
 have O:w2.heap[X]? = w.heap[X]? := I.bel.block X (by omega);have hb:aj w2 X 67 (ou s i lv nv):=O.trans h.blk;have U:io (X+1) w2 nv ns:=by
  refine ⟨h.notes.1,?_⟩;rcases h.notes.2 with q | ⟨g,cap,cur,e,N,J,r⟩
  ·exact .inl q
  ·refine .inr ⟨g,cap,cur,e,N,?_,r⟩;(have D:nv.ownBlock=some g:=by rw [e];rfl);exact (I.keep g (h.notes.lt g D).2 (fun y=>h.apart g y D)).trans J
 refine ⟨by simpa [ou] using hb.set_ 2 lv',I.own.keep fun b hb _=>Below.heap_setCell w2 ⟨X,2,none⟩ _ b (by show b≠X;omega),
  U.keep fun b hb _=>Below.heap_setCell w2 ⟨X,2,none⟩ _ b (by show b≠X;omega),fun g h1 h2=>?_,h.nfew⟩
 rcases I.at_ with e | ⟨g',e,M⟩
 ·exact h.apart g (e▸h1) h2
 ·rw [h1] at e;injection e with e;have:=(h.notes.lt g h2).2;omega
theorem BM.noteRow (h:BM w X s i l lv nv ns) {w2:World} {nv':Value} {ns':List bE} (I:yP (X+1) w w2 nv nv' ns') (J:ns'.length≤i):BM (w2.setCell ⟨X,3,none⟩ nv') X s i l lv nv' ns':=by
 have U:w2.heap[X]? = w.heap[X]? := I.bel.block X (by omega);have hb:aj w2 X 67 (ou s i lv nv):=U.trans h.blk;have q:io (X+1) w2 lv l:=by
  refine ⟨h.toks.1,?_⟩;rcases h.toks.2 with y | ⟨g,cap,cur,e,O,M,r⟩
  ·exact .inl y
  ·refine .inr ⟨g,cap,cur,e,O,?_,r⟩;(have D:lv.ownBlock=some g:=by rw [e];rfl);exact (I.keep g (h.toks.lt g D).2 (fun z=>h.apart g D z)).trans M
 refine ⟨by simpa [ou] using hb.set_ 3 nv',q.keep fun b hb _=>Below.heap_setCell w2 ⟨X,3,none⟩ _ b (by show b≠X;omega),
  I.own.keep fun b hb _=>Below.heap_setCell w2 ⟨X,3,none⟩ _ b (by show b≠X;omega),fun g h1 h2=>?_,J⟩
 rcases I.at_ with e | ⟨g',e,N⟩
 ·exact h.apart g h1 (e▸h2)
 ·rw [h2] at e;injection e with e;have:=(h.toks.lt g h1).2;omega
theorem fd.below (h:fd w X s i l) (hb:Below w.heap.size w w'):fd w' X s i l:=by obtain ⟨lv,nv,ns,D⟩:=h.out;exact ⟨⟨lv,nv,ns,D.below hb⟩,h.le,h.most,h.few⟩
theorem fd.keep (h:fd w X s i l) (D:∀ b,X≤b→w'.heap[b]? = w.heap[b]?):fd w' X s i l:=by obtain ⟨lv,nv,ns,I⟩:=h.out;exact ⟨⟨lv,nv,ns,I.keep fun b hb _=>D b hb⟩,h.le,h.most,h.few⟩
theorem fd.lt (h:fd w X s i l):X<w.heap.size:=by obtain ⟨lv,nv,ns,D⟩:=h.out;exact D.blk.lt
theorem fd.set (h:fd w X s i l) (j:Nat) (D:i≤j) (I:j≤s.size):fd (w.setCell ⟨X,1,none⟩ (.int .i64 (j:Int))) X s j l:=by obtain ⟨lv,nv,ns,J⟩:=h.out;exact ⟨⟨lv,nv,ns,J.set j D⟩,I,h.most,h.few⟩
end
def py (X:Nat) (s:ByteArray) (w:World) (i:Nat) (l:List bE) (v:Value) (e:Ending) (w':World):Prop:=
 e=.returned v∧fd w' X s i l∧Below X w w'
end
end Go.Proofs.YtiebcdeafofgdaaGreatDoor
