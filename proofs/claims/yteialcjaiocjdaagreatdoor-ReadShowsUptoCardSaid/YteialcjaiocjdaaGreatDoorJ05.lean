/-
  Parts of the proof: Rty2 Rterm Rkit2 Smem Runion. By an AI agent.
-/
import Derived.Test.YteialcjaiocjdaaGreatDoorJ04
import Derived.Deep.RegionLaw
open Go.Proofs.Tryz
set_option maxRecDepth 100000
set_option maxHeartbeats 8000000
namespace Go.Proofs.YteialcjaiocjdaaGreatDoor
section
open Go.RowKit Go.Lib Go.Proofs
attribute [local go_sem ↓] Go.wp_at_zero Go.wp_at_succ
attribute [local go_sem] aR aS aT bu bv bw bz
theorem gF:type_of% @beq_eq_false_iff_ne:=@beq_eq_false_iff_ne
theorem jN:type_of% @Nat.le_succ:=@Nat.le_succ
theorem kI:type_of% @List.flatMap_append:=@List.flatMap_append
theorem qZ:type_of% @Go.World.ownsRow.alloc:=@Go.World.ownsRow.alloc
theorem va:type_of% @Go.World.ownsRow.lt:=@Go.World.ownsRow.lt
theorem Gy(a:Array Value)(w:World):(callFunc 110 a).run prog w=.ok (.enter 110 a) w:=by kernel_rfl
theorem O0(E:cw)(F:fK)(hF:nE E F):d9 E (uE F) 110:=by
 intro w s h hno;generalize ga:uE F E.c s=res at *;have J:=hid ga;have U:=hid hno;have gb:=h.lt;have hr:=h.most;clear ga hno;(go_enter func110,ntmps110);go_wp2_with fail;refine(bL E s _ (h.alloc _)).mono ?_;unfold fY;rintro e w1⟨rfl,g9⟩;have gq:=((cJ.refl h).alloc _).step g9;have g4:=(aq.new w 24 bJ).below g9 (by simp);have gv:=g4.lt;clear g9;go_wp2_with fail;cases hA:aP E.c s ⟨#[40]⟩with
 | true=>
  have HE:=hid (show(F.typ E.c (adv s)).bind (fun t s1=>(bV ⟨#[41]⟩ E.c s1).bind fun _ s2=>.ok t s2)=res by rw[<-J.out,uE,gG hA]);refine(aZ E s _ w1 gq.rd hA).mono ?_;rintro e w2⟨rfl,gs⟩;have gn:=g4.grown gs.gr;have hi:=gq.moved.trans gs;have jb:=gs.gr.size;clear J hA;go_wp2_with fail;cases hP:F.typ E.c (adv s)with
  |out=>exact absurd HE.out.symm (by rw[hP];exact U.out)
  |ok n s1=>
   have I:=hid (show(bV ⟨#[41]⟩ E.c s1).bind (fun _ s2=>.ok n s2)=res by rw[<-HE.out,hP];rfl);refine(hF.typ w2 (adv s) gs.rd (by rw[hP];exact nofun)).mono ?_;rw[hP];rintro e w3⟨⟨v,rfl,hv⟩,N⟩;obtain⟨A,cp,rfl,hC⟩:=hv.toC;have gj:=gn.grown N.gr;have gm:=(hi.trans N).alloc (.cells (nv n A cp) 24);have hq:=N.gr.size;have hu:=N.rd.lt;clear hP HE N gs hi;go_wp2_with fail;cases hD:aP E.c s1 ⟨#[41]⟩with
   |false=>exact absurd (show res=.out by rw[<-I.out,bV];simp[hD]) U.out
   |true=>have HF:=hid (show res=.ok n (adv s1)by rw[<-I.out,bV];simp[hD]);refine(de E s1 _ _ gm.rd hD).mono ?_;rintro e w4⟨rfl,D⟩;have h0:=(aq.new w3 24 (nv n A cp)).grown D.gr;have O:=(gj.alloc _).grown D.gr;obtain⟨x0,x1,x2,x3,_,_,_,_⟩:=ab h0;obtain⟨d0,d1,d2,d3,e0,e1,e2,e3⟩:=ab O;clear hD I;go_wp2_with fail;refine av HF.out (hv.kept (((am.refl _ _).alloc _).trans (am.of_grown D.gr (fun g e hX=>by injection e with e;subst e;omega)))) (gm.trans D) O (gC _) gb ?_ rfl (by rfl) rfl;intro b hb;constructor<;>omega
 | false=>
  refine(bB E s _ w1 gq.rd hA).mono ?_;rintro e w2⟨rfl,gg⟩;have gn:=g4.below gg.bel gv;replace gg:=gq.step gg.bel;have gu:=gn.lt;clear gq g4 gv;go_wp2_with fail;cases hB:aP E.c s ⟨#[91]⟩with
  | true=>
   have HE:=hid (show(bV ⟨#[93]⟩ E.c (adv s)).bind (fun _ s1=>(F.typ E.c s1).bind fun t s2=>.ok (.mk 11 ⟨#[]⟩ [t] (aD E.c s)) s2)=res by rw[<-J.out,uE];simp only[hA,hB,gW,jW,kG]);refine(aZ E s _ w2 gg.rd hB).mono ?_;rintro e w3⟨rfl,N⟩;have gj:=gn.grown N.gr;have gm:=gg.moved.trans N;have hq:=N.gr.size;clear J hA hB;go_wp2_with fail;cases hD:aP E.c (adv s) ⟨#[93]⟩with
   |false=>exact absurd (show res=.out by rw[<-HE.out,bV];simp[hD]) U.out
   |true=>
    have I:=hid (show(F.typ E.c (adv (adv s))).bind (fun t s2=>.ok (.mk 11 ⟨#[]⟩ [t] (aD E.c s)) s2)=res by rw[<-HE.out,bV];simp only[hD,kG,bQ.bind_ok]);refine(de E (adv s) _ _ gm.rd hD).mono ?_;rintro e w4⟨rfl,D⟩;have O:=gj.grown D.gr;have g0:=gm.trans D;have hp:=D.gr.size;clear hD HE gm;go_wp2_with fail;cases hP:F.typ E.c (adv (adv s))with
    |out=>exact absurd I.out.symm (by rw[hP];exact U.out)
    |ok n s2=>have HF:Hid (res=.ok (.mk 11 ⟨#[]⟩ [n] (aD E.c s)) s2):=hid (by rw[<-I.out,hP];rfl);refine(hF.typ w4 _ D.rd (by rw[hP];exact nofun)).mono ?_;rw[hP];rintro e w5⟨⟨v,rfl,hv⟩,M⟩;obtain⟨A,cp,rfl,hC⟩:=hv.toC;have gi:=O.grown M.gr;have gz:=g0.trans M;have ho:=M.gr.size;have hw:=gi.lt;clear hP I D N g0;go_wp2_with fail;refine(aM _ _ _ _ _ ⟨_,_,_,rfl⟩).mono ?_;rintro e w6⟨rfl,gd⟩;have hV:=af.make 1 rfl (ah.one hC) 11 ⟨#[]⟩ (aD E.c s) gd;have g3:=(gi.alloc _).below gd (by simp;omega);have hc:=(gz.alloc _).step gd;obtain⟨d0,d1,d2,d3,e0,e1,e2,e3⟩:=ab g3;clear gd;go_wp2_with fail;refine av HF.out hV hc g3 (gC _) gb ?_ rfl (by rfl) rfl;rintro b(⟨hb,_⟩|rfl)<;>constructor<;>omega
  | false=>
   refine(bB E s _ w2 gg.rd hB).mono ?_;rintro e w3⟨rfl,ge⟩;have gj:=gn.below ge.bel gu;replace ge:=gg.step ge.bel;have gt:=gj.lt;clear gg gn gu;go_wp2_with fail;cases hK:aP E.c s ⟨#[102,117,110,99]⟩with
   |true=>
    have HE:Hid (dk F (aD E.c s) E.c (adv s)=res):=hid (by rw[<-J.out,uE];simp only[hA,hB,hK,gW,jW,kG]);refine(aZ E s _ w3 ge.rd hK).mono ?_;rintro e w4⟨rfl,D⟩;have O:=gj.grown D.gr;have g0:=ge.moved.trans D;have hp:=D.gr.size;clear J hA hB hK;go_wp2_with fail;refine(rY E F hF _ w4 (adv s) D.rd (by rw[show dk F (az E.c s.at_).pos E.c (adv s)=res from HE.out];exact U.out)).mono ?_;rw[show dk F (az E.c s.at_).pos E.c (adv s)=res from HE.out];cases ga:res with
    |out=>exact absurd ga U.out
    |ok n s2=>rintro e w5⟨⟨v,rfl,hv⟩,M⟩;obtain⟨A,cp,rfl,hC⟩:=hv.toC;have gi:=O.grown M.gr;obtain⟨d0,d1,d2,d3,e0,e1,e2,e3⟩:=ab gi;have HF:=hid ga;clear HE ga U;go_wp2_with fail;refine av HF.out hv (g0.trans M) gi (gC _) gb ?_ rfl (by rfl) rfl;intro b hb;constructor<;>omega
   | false=>
    refine(bB E s _ w3 ge.rd hK).mono ?_;rintro e w4⟨rfl,gk⟩;have O:=gj.below gk.bel gt;replace gk:=ge.step gk.bel;have hy:=O.lt;have HE:=hid (show(cT E.c s).bind (fun x s1=>if aP E.c s1 ⟨#[91]⟩ && !cY E.c s1 then(bh F.typ ⟨#[93]⟩ F.g [] E.c (adv s1)).bind fun l s2=>if l.length=0 then .out else .ok (.mk 10 x l (aD E.c s)) s2 else .ok (.mk 10 x [] (aD E.c s)) s1)=res by rw[<-J.out,uE];simp only[hA,hB,hK,gW,jW]);clear ge gj gt hA hB hK J;go_wp2_with fail;by_cases hN:(az E.c s.at_).kind=1
    case neg=>exact absurd (show res=.out by rw[<-HE.out,cT,gB hN];rfl) U.out
    have I:=hid (show(if aP E.c (adv s) ⟨#[91]⟩ && !cY E.c (adv s)then(bh F.typ ⟨#[93]⟩ F.g [] E.c (adv (adv s))).bind fun l s2=>if l.length=0 then .out else .ok (.mk 10 (az E.c s.at_).text l (aD E.c s)) s2 else .ok (.mk 10 (az E.c s.at_).text [] (aD E.c s)) (adv s))=res by rw[<-HE.out,cT,gG hN];rfl);refine(lg E s w4 gk.rd hN).mono ?_;rintro e w5⟨rfl,M⟩;have gi:=O.grown M.gr;have gz:=gk.moved.trans M;have ho:=M.gr.size;clear HE hN M gk O;generalize(az E.c s.at_).text=tx at *;go_wp2_with fail;refine(aM _ _ _ _ _ ⟨_,_,_,rfl⟩).mono ?_;rintro e w6⟨rfl,gd⟩;have g3:=gi.below gd (by omega);have hc:=gz.step gd;have ja:=gd.size;clear gd gi gz;go_wp2_with fail;have hl:=aq.new w6 24 #[.int .i64 10,.string tx,.slice none 0 0,.int .i64 (aD E.c s)];have hm:=g3.alloc (.cells #[.int .i64 10,.string tx,.slice none 0 0,.int .i64 (aD E.c s)] 24);have ha:=hc.alloc (.cells #[.int .i64 10,.string tx,.slice none 0 0,.int .i64 (aD E.c s)] 24);refine(bY E (adv s) _ _ ha.rd).mono ?_;rintro e w8⟨rfl,gw⟩;have hf:=hl.below gw (by simp);have g2:=hm.below gw (by simp;omega);have gy:=ha.step gw;(have h8:w6.heap.size+1<=w8.heap.size:=by have:=gw.size;simp at this;omega);clear hl hm ha gw;cases hI:aP E.c (adv s) ⟨#[91]⟩with
    |false=>have HF:=hid (show res=.ok (.mk 10 tx [] (aD E.c s)) (adv s)by rw[<-I.out];simp[hI]);obtain⟨x0,x1,x2,x3,_,_,_,_⟩:=ab hf;obtain⟨d0,d1,d2,d3,e0,e1,e2,e3⟩:=ab g2;clear I;go_wp2_with fail;refine av (X:=fun _=>False) HF.out (af.leaf _ _ _) gy g2 (gC _) gb ?_ rfl (by rfl) rfl;exact fun _ h=>h.elim
    | true=>
     go_wp2_with fail;refine(pG E (adv s) _ gy.rd).mono ?_;rintro e w9⟨rfl,gp⟩;have he:=hf.below gp.bel (by omega);have g1:=g2.below gp.bel (by omega);have gl:=gy.trans gp.moved;have h7:=gp.bel.size;clear hf g2 gy gp;cases hJ:cY E.c (adv s)with
     |true=>have HF:=hid (show res=.ok (.mk 10 tx [] (aD E.c s)) (adv s)by rw[<-I.out];simp[hI,hJ]);obtain⟨x0,x1,x2,x3,_,_,_,_⟩:=ab he;obtain⟨d0,d1,d2,d3,e0,e1,e2,e3⟩:=ab g1;clear I;go_wp2_with fail;refine av (X:=fun _=>False) HF.out (af.leaf _ _ _) gl g1 (gC _) gb ?_ rfl (by rfl) rfl;exact fun _ h=>h.elim
     | false=>
      have hh:=hid (show(bh F.typ ⟨#[93]⟩ F.g [] E.c (adv (adv s))).bind (fun l s2=>if l.length=0 then .out else .ok (.mk 10 tx l (aD E.c s)) s2)=res by rw[<-I.out];simp[hI,hJ]);have h5:=oZ gl.rd hI;obtain⟨c0,c1,c2,c3,c4,f0⟩:=gl.rd.cells;have f1:=f0 1;have ht:=gl.rd.lt;clear I hI hJ f0;go_wp2_with fail;have gx:=gl.setAt ((adv s).at_+1) (by omega);have g6:=he.far (p:=⟨E.R,1,none⟩) (by show w6.heap.size≠E.R;omega) (.int .i64 (((adv s).at_+1:Nat):Int));have g8:=g1.far (p:=⟨E.R,1,none⟩) (by show w.heap.size≠E.R;omega) (.int .i64 (((adv s).at_+1:Nat):Int));(have h2:w9.heap.size<=(w9.setCell ⟨E.R,1,none⟩ (.int .i64 (((adv s).at_+1:Nat):Int))).heap.size:=by simp);clear he g1 gl c0 c1 c2 c3 c4 f1;cases hP:bh F.typ ⟨#[93]⟩ F.g [] E.c (adv (adv s))with
      |out=>exact absurd hh.out.symm (by rw[hP];exact U.out)
      | ok l s2=>
       have hg:=hid (show(if l.length=0 then .out else .ok (.mk 10 tx l (aD E.c s)) s2)=res by rw[<-hh.out,hP];rfl);refine(oa E 110 #[E.R] #[] F.typ ⟨#[93]⟩ F.g (adv (adv s)) _ gx.rd Gy (hF.typ.part _) (by rw[hP];exact nofun) hF.g).mono ?_;rw[hP];rintro e w11⟨⟨v,rfl,hv⟩,gh⟩;have g5:=g6.grown gh.gr;have g7:=g8.grown gh.gr;have hk:=gx.trans gh;have h1:=gh.gr.size;have hn:=hv.mono (Y:=fun b=>w6.heap.size+1<=b) (fun b hb _=>by omega);obtain⟨A,cp,xs,rfl,_,_,_⟩:=hv;obtain⟨x0,x1,x2,x3,y0,y1,y2,y3⟩:=ab g5;have h4:=g5.lt;clear hh hP g6 g8 gx gh;by_cases hz:l.length=0
       ·have HF:Hid (res=.out):=hid (by rw[<-hg.out,gG hz]);exact absurd (HF.out) U.out
       ·have HF:Hid (res=.ok (.mk 10 tx l (aD E.c s)) s2):=hid (by rw[<-hg.out,gB hz]);(have h6:((l.length:Int)==0)=false:=by rw[gF];omega);obtain⟨d0,d1,d2,d3,e0,e1,e2,e3⟩:=ab g7;(have h3:w.heap.size≠w6.heap.size:=by omega);clear hg hz;go_wp2_with fail;have hj:=hk.own (p:=⟨w6,2,none⟩) (by show w.heap.size<=w6.heap.size;omega) (by show E.R<w6.heap.size;omega) (.slice A l.length cp);refine av (X:=fun b=>w6.heap.size+1<=b) HF.out ?_ hj (g7.far (p:=⟨w6,2,none⟩) (by show w.heap.size≠w6.heap.size;omega) (.slice A l.length cp)) (gC _) gb ?_ rfl (by rfl) rfl
        ·exact(af.of_slice hn 10 tx (aD E.c s)).kept ((am.refl _ _).setCell (fun hX=>by simp at hX;omega) _)
        ·intro b hb;constructor<;>omega
theorem B8(E:cw)(F:fK)(hF:nE E F):d9 E (ma F) 208:=by
 intro w s h hno;generalize hres:ma F E.c s=res at *;have J:=hid hres;have gn:=hid hno;have gg:=h.lt;clear hres hno;(go_enter func208,ntmps208);go_wp2_with fail;refine(bL E s _ (h.alloc _)).mono ?_;unfold fY;rintro e w1⟨rfl,gj⟩;have M:=((cJ.refl h).alloc _).step gj;have gd:=(aq.new w 24 bJ).below gj (by simp);have gi:=gd.lt;clear gj;go_wp2_with fail;cases hA:aP E.c s ⟨#[126]⟩with
 |true=>
  have HE:=hid (show(F.typ E.c (adv s)).bind (fun t s1=>.ok (.mk 15 ⟨#[126]⟩ [t] (aD E.c s)) s1)=res by rw[<-J.out,ma,gG hA]);refine(aZ E s _ w1 M.rd hA).mono ?_;rintro e w2⟨rfl,O⟩;have gm:=gd.grown O.gr;have N:=M.moved.trans O;have gq:=O.gr.size;clear J hA gd M;go_wp2_with fail;cases U:F.typ E.c (adv s)with
  |out=>exact absurd HE.out.symm (by rw[U];exact gn.out)
  |ok n s1=>have HF:Hid (res=.ok (.mk 15 ⟨#[126]⟩ [n] (aD E.c s)) s1):=hid (by rw[<-HE.out,U];rfl);refine(hF.typ w2 _ O.rd (by rw[U];exact nofun)).mono ?_;rw[U];rintro e w3⟨⟨v,rfl,hv⟩,D⟩;obtain⟨A,cp,rfl,hC⟩:=hv.toC;have gb:=gm.grown D.gr;have gl:=N.trans D;have gp:=D.gr.size;have gh:=gb.lt;clear U HE O D N;go_wp2_with fail;refine(aM _ _ _ _ _ ⟨_,_,_,rfl⟩).mono ?_;rintro e w4⟨rfl,I⟩;have hV:=af.make 1 rfl (ah.one hC) 15 ⟨#[126]⟩ (aD E.c s) I;have ga:=(gb.alloc _).below I (by simp;omega);have gk:=(gl.alloc _).step I;obtain⟨d0,d1,d2,d3,e0,e1,e2,e3⟩:=ab ga;clear I;go_wp2_with fail;refine av HF.out hV gk ga (gC _) gg ?_ rfl (by rfl) rfl;rintro b(⟨hb,_⟩|rfl)<;>constructor<;>omega
 |false=>
  have HE:=hid (show(F.typ E.c s).bind (fun t s1=>.ok (.mk 15 ⟨#[]⟩ [t] (aD E.c s)) s1)=res by rw[<-J.out,ma];simp only[hA,gW,jW]);refine(bB E s _ w1 M.rd hA).mono ?_;rintro e w2⟨rfl,ge⟩;have gm:=gd.below ge.bel gi;have N:=M.moved.trans ge.moved;have gq:=ge.bel.size;clear J hA gd M;go_wp2_with fail;cases U:F.typ E.c s with
  |out=>exact absurd HE.out.symm (by rw[U];exact gn.out)
  |ok n s1=>have HF:Hid (res=.ok (.mk 15 ⟨#[]⟩ [n] (aD E.c s)) s1):=hid (by rw[<-HE.out,U];rfl);refine(hF.typ w2 _ N.rd (by rw[U];exact nofun)).mono ?_;rw[U];rintro e w3⟨⟨v,rfl,hv⟩,D⟩;obtain⟨A,cp,rfl,hC⟩:=hv.toC;have gb:=gm.grown D.gr;have gl:=N.trans D;have gp:=D.gr.size;have gh:=gb.lt;clear U HE ge D N;go_wp2_with fail;refine(aM _ _ _ _ _ ⟨_,_,_,rfl⟩).mono ?_;rintro e w4⟨rfl,I⟩;have hV:=af.make 1 rfl (ah.one hC) 15 ⟨#[]⟩ (aD E.c s) I;have ga:=(gb.alloc _).below I (by simp;omega);have gk:=(gl.alloc _).step I;obtain⟨d0,d1,d2,d3,e0,e1,e2,e3⟩:=ab ga;clear I;go_wp2_with fail;refine av HF.out hV gk ga (gC _) gg ?_ rfl (by rfl) rfl;rintro b(⟨hb,_⟩|rfl)<;>constructor<;>omega
end
section
open Go.RowKit Go.Lib Go.Proofs
structure ik(B:Nat)(Z:Nat->Prop)(w:World)(v:Value)(l:List Nd):Prop where
 out:∃xs,w.ownsRow B 24 4 v l.length xs/\ah (fun b=>B<=b/\some b≠v.ownBlock/\¬ Z b) w l xs
 far:∀g,v.ownBlock=some g->¬ Z g
section
variable {B:Nat} {Z:Nat->Prop} {w w':World} {v:Value} {l:List Nd}
theorem ik.nil(B:Nat)(Z:Nat->Prop)(w:World):ik B Z w (.slice none 0 0) []:=⟨⟨[],qS _ _ _ _,ah.nil⟩,fun g h=>by simp[Value.ownBlock]at h⟩
theorem ik.keep(h:ik B Z w v l)(J:∀b,B<=b->¬ Z b->b<w.heap.size->w'.heap[b]? = w.heap[b]?):ik B Z w' v l:=by
 obtain⟨xs,N,O⟩:=h.out;refine⟨⟨xs,⟨N.1,?_⟩,O.keep fun b hb D=>J b hb.1 hb.2.2 D⟩,h.far⟩;rcases N.2 with U|⟨g,cap,cur,e,M,I,r⟩
 ·exact .inl U
 ·refine .inr ⟨g,cap,cur,e,M,?_,r⟩;have D:g<w.heap.size:=by
   rcases kL g w.heap.size with D|hge
   ·exact D
   ·rw[kN hge]at I;cases I
  exact(J g M (h.far g (by rw[e];rfl)) D).trans I
theorem ik.kept(h:ik B Z w v l)(D:am (fun b=>B<=b/\¬ Z b) w w'):ik B Z w' v l:=h.keep fun b J I h3=>D.block b ⟨J,I⟩ h3
theorem ik.grown{R:Nat}(h:ik B Z w v l)(D:w.grownBy w' (some R))(I:R<B):ik B Z w' v l:=
 h.keep fun b hb _ hlt=>D.block b hlt (fun e=>by injection e;omega)
theorem ik.lt(h:ik B Z w v l):∀g,v.ownBlock=some g->B<=g/\g<w.heap.size:=by obtain⟨xs,D,_⟩:=h.out;exact fun g hg=>D.lt g hg
theorem ik.values(h:ik B Z w v l):cV (fun b=>B<=b/\¬ Z b) w v l:=by
 obtain⟨xs,D,J⟩:=h.out;rcases D.2 with⟨rfl,h0⟩|⟨g,cap,cur,rfl,hg,U,I,_,N,M⟩
 ·exact⟨none,0,xs,by rw[h0],by omega,⟨D.1,fun h=>by omega⟩,J.mono fun b hb _=>⟨hb.1,hb.2.2⟩⟩
 ·refine⟨_,cap,xs,rfl,I,⟨D.1,fun _=>⟨g,0,rfl,⟨hg,h.far g rfl⟩,fun j u hu=>?_⟩⟩,J.mono fun b hb _=>⟨hb.1,hb.2.2⟩⟩;(have O:j<l.length*4:=by have:=(List.getElem?_eq_some_iff.1 hu).1;rw[D.1]at this;exact this);rw[kR];unfold World.cell?;rw[U];simp only[qj,gW,jW];rw[<-M,qY O]at hu;rw[<-hu];simp
theorem ik.form(h:ik B Z w v l):∃A c,v=.slice A l.length c/\l.length<=c:=by obtain⟨A,c,xs,e,D,_⟩:=h.values;exact⟨A,c,e,D⟩
theorem ik.one{K S:Nat}{n:Nd}{a b c d:Value}{w1:World}(hb:aq w K 24 #[a,b,c,d])(I:B<=K)(hK:w1.heap.size=K)(O:bG (fun b=>S<=b) w1 n [a,b,c,d])(U:B<=S)
  (N:∀b,S<=b->b<w1.heap.size->w.heap[b]? = w1.heap[b]?)(J:∀b,S<=b->b<=K->¬ Z b)(D:S<=K):ik B Z w (.slice (some ⟨K,0,none⟩) 1 1) [n]:=by
 refine⟨⟨[a,b,c,d],⟨rfl,.inr ⟨K,1,#[a,b,c,d],rfl,I,hb,gC _,by unfold maxLen;omega,rfl,rfl⟩⟩,?_⟩,fun g hg=>?_⟩
 ·have h1:=ah.one (O.mono (Y:=fun b=>S<=b/\b<K) fun b hb hlt=>⟨hb,by omega⟩);have h:=h1.keep (w':=w) fun b hb hlt=>N b hb.1 hlt;refine h.mono fun b hb _=>⟨by omega,fun e=>?_,J b hb.1 (by omega)⟩;(have M:b=K:=by simpa[Value.ownBlock]using e);omega
 ·(have M:K=g:=by simpa[Value.ownBlock]using hg);subst M;exact J K D (gC _)
end
structure Fo(E:cw)(s:St)(B:Nat)(Z:Nat->Prop)(w w1 w2:World)(v':Value)(l:List Nd):Prop where
 own:ik B Z w2 v' l
 mov:aA E s w w2
 old:∀b,b<w1.heap.size->(Z b\/b<B)->w2.heap[b]? = w1.heap[b]?
 le:w1.heap.size<=w2.heap.size
theorem Li{o:Oper}{a:Act}{K:Act->World->Prop}{Q:Exit->Act->World->Prop}(s x:Operand)
  (ho:o.op=.call { callee:=.builtin .append,args:=#[s,x],argTypes:=#[22,22] })
  (E:cw)(st:St)(B S:Nat)(Z:Nat->Prop)(w w1:World)(u:Value)(l:List Nd)(n:Nd)(A:Option Addr)(cap:Nat)(hs:a.eval s=u)(hx:a.eval x=.slice (some ⟨w1,0,none⟩) 1 1)
  (hO:ik B Z w1 u l)(I:aA E st w w1)(gk:w.heap.size<=B)(hR:E.R<B)(hB:B<=S)(hS:S<=w1.heap.size)(hZ:∀b,Z b->b<S)(hu:∀g,u.ownBlock=some g->g<S)(hl:l.length<=1000000)
  (hV:bG (fun b=>S<=b) w1 n [.int .i64 n.kind,.string n.text,.slice A n.kids.length cap,.int .i64 n.pos])
  (h:∀g c w2,Fo E st B Z w w1 w2 (.slice (some ⟨g,0,none⟩) (l.length+1) c) (l++[n])->K (a.put o.dst (.slice (some ⟨g,0,none⟩) (l.length+1) c)) w2):
  o.wp prog a (w1.alloc (.cells (nv n A cap) 24)) K Q:=by
 obtain⟨i0,hi,gg,ge,gd⟩:=qE o0;obtain⟨xs,O,gi⟩:=hO.out;refine vh _ s x 22 ho B 24 i0 _ 4 56 underlying22 hi gg ge gd rfl (by omega) u l.length xs hs (O.alloc _) ⟨w1,0,none⟩ 1 1 [.int .i64 n.kind,.string n.text,.slice A n.kids.length cap,.int .i64 n.pos] hx rfl
  (qv (cs:=(nv n A cap)) (qq _ _)) (rX n A cap) (by omega) (by unfold maxLen;omega) (by omega) (by rw[jO];omega) _ rfl ?_
 intro g c w2 hown1 N gb _;have gh:∀g,u.ownBlock=some g->B<=g:=fun g N=>(hO.lt g N).1;have J:∀b,b<w1.heap.size->some b≠u.ownBlock->w2.heap[b]? = w1.heap[b]? :=fun b hb hne=>(N.block b (by rw[jO];omega) hne).trans (jI w1 _ b hb);have hold:∀b,b<w1.heap.size->(Z b\/b<B)->w2.heap[b]? = w1.heap[b]? :=fun b hb gj=>J b hb (fun e=>by
  rcases gj with h|h
  ·exact hO.far b e.symm h
  ·have:=gh b e.symm;omega)
 have U:w1.heap.size<=w2.heap.size:=jZ (by rw[jO];omega) N.size;have ga:¬ Z g:=by
  rcases gb with e|e
  ·exact hO.far g e
  ·rw[jO]at e;intro hz;have:=hZ g hz;omega
 have M:ah (fun b=>B<=b/\some b≠(Value.slice (some ⟨g,0,none⟩) (l.length+1) c).ownBlock/\¬ Z b) w2 (l++[n]) (xs++[.int .i64 n.kind,.string n.text,.slice A n.kids.length cap,.int .i64 n.pos]):=by
  have h1:ah (fun b=>B<=b/\some b≠u.ownBlock/\¬ Z b/\b<w1.heap.size) w1 (l++[n]) (xs++[.int .i64 n.kind,.string n.text,.slice A n.kids.length cap,.int .i64 n.pos]):=
   (gi.mono fun b hb D=>⟨hb.1,hb.2.1,hb.2.2,D⟩).app (ah.one (hV.mono fun b hb D=>⟨jZ hB hb,fun e=>by have:=hu b e.symm;omega,fun hz=>by have:=hZ b hz;omega,D⟩))
  have h2:=h1.keep (w':=w2) fun b hb D=>J b D hb.2.1;refine h2.mono fun b hb _=>⟨hb.1,fun e=>?_,hb.2.2.1⟩;(have e3:b=g:=by simpa[Value.ownBlock]using e);subst e3;rcases gb with e|e
  ·exact hb.2.1 e.symm
  ·rw[jO]at e;have:=hb.2.2.2;omega
 refine h g c w2 ⟨⟨⟨_,by rw[gM];exact hown1,M⟩,fun g' hg'=>?_⟩,⟨I.rd.keep fun b hb=>?_,?_⟩,hold,U⟩
 ·(have e3:g=g':=by simpa[Value.ownBlock]using hg');rw[<-e3];exact ga
 ·exact hold b (Nat.lt_of_le_of_lt hb I.rd.lt) (.inr (by omega))
 ·refine⟨N.os.trans I.gr.os,N.tape.trans I.gr.tape,N.output.trans I.gr.output,jZ I.gr.size U,fun k hk hne=>?_⟩;exact(hold k (kK hk I.gr.size) (.inr (by omega))).trans (I.gr.block k hk hne)
theorem fM{ops:Array Oper}{o:Oper}{a:Act}{K:Act->World->Prop}{Q:Exit->Act->World->Prop}{D:Prop}(J:o.guard=none)(s x:Operand)
  (U:o.op=.call { callee:=.builtin .append,args:=#[s,x],argTypes:=#[22,22] })
  (E:cw)(st:St)(B S:Nat)(Z:Nat->Prop)(w w1:World)(u:Value)(l:List Nd)(n:Nd)(A:Option Addr)(cap:Nat)(hs:a.eval s=u)(M:a.eval x=.slice (some ⟨w1,0,none⟩) 1 1)
  (hO:ik B Z w1 u l)(hm:aA E st w w1)(I:w.heap.size<=B)(hR:E.R<B)(hB:B<=S)(hS:S<=w1.heap.size)(hZ:∀b,Z b->b<S)(O:∀g,u.ownBlock=some g->g<S)(hl:l.length<=1000000)
  (hV:bG (fun b=>S<=b) w1 n [.int .i64 n.kind,.string n.text,.slice A n.kids.length cap,.int .i64 n.pos])
  (h:∀g c w2,Fo E st B Z w w1 w2 (.slice (some ⟨g,0,none⟩) (l.length+1) c) (l++[n])->K (a.put o.dst (.slice (some ⟨g,0,none⟩) (l.length+1) c)) w2):
  if Region.wanted o (yielded ops a.tmps)=true then Oper.wp prog o a (w1.alloc (.cells (nv n A cap) 24)) K Q else D:=by(have N:Region.wanted o (yielded ops a.tmps)=true:=by simp[Region.wanted,J]);rw[gG N];exact Li s x U E st B S Z w w1 u l n A cap hs M hO hm I hR hB hS hZ O hl hV h
end
section
open Go.RowKit Go.Lib Go.Proofs
attribute [local go_sem ↓] Go.wp_at_zero Go.wp_at_succ
theorem O1:(prog.info? 63).map (fun i=>(i.zero,i.size,i.bytes))=some (some (.agg #[.int .i64 0,.string ⟨#[]⟩,.int .i64 0]),3,32):=by kernel_rfl
theorem Lj(l:List ef):∀u∈l.flatMap nB,u.oneCell'=true:=by intro u hu;obtain⟨x,_,D⟩:=List.mem_flatMap.1 hu;unfold nB at D;simp only[vr,vm,or_false]at D;rcases D with rfl|rfl|rfl<;>rfl
def mw(B:Nat)(w:World)(v:Value)(l:List ef):Prop:=w.ownsRow B 63 3 v l.length (l.flatMap nB)
section
variable {B:Nat} {w w':World} {v:Value} {l:List ef}
theorem mw.nil(B:Nat)(w:World):mw B w (.slice none 0 0) []:=qS _ _ _ _
theorem mw.keep(h:mw B w v l)(M:∀b,B<=b->b<w.heap.size->w'.heap[b]? = w.heap[b]?):mw B w' v l:=by
 refine⟨h.1,?_⟩;rcases h.2 with N|⟨g,cap,cur,e,J,I,r⟩
 ·exact .inl N
 ·refine .inr ⟨g,cap,cur,e,J,?_,r⟩;have D:g<w.heap.size:=by
   rcases kL g w.heap.size with D|hge
   ·exact D
   ·rw[kN hge]at I;cases I
  exact(M g J D).trans I
theorem mw.below(h:mw B w v l)(hb:Below w w w'):mw B w' v l:=h.keep fun b _ hlt=>hb.block b hlt
theorem mw.lt(h:mw B w v l):∀g,v.ownBlock=some g->B<=g/\g<w.heap.size:=fun g hg=>va h g hg
theorem mw.form(h:mw B w v l):∃A c,v=.slice A l.length c/\l.length<=c:=by
 rcases h.2 with⟨rfl,I⟩|⟨g,cap,cur,rfl,_,_,D,_⟩
 ·exact⟨none,0,by rw[I],by omega⟩
 ·exact⟨_,cap,rfl,D⟩
end
structure Fp(B:Nat)(w1 w2:World)(u v':Value)(l':List ef):Prop where
 own:mw B w2 v' l'
 bel:Below B w1 w2
theorem B9{o:Oper}{a:Act}{K:Act->World->Prop}{Q:Exit->Act->World->Prop}(s x:Operand)
  (ho:o.op=.call { callee:=.builtin .append,args:=#[s,x],argTypes:=#[50,50] })
  (B:Nat)(w1:World)(u:Value)(l:List ef)(t:ef)(hs:a.eval s=u)(S:Nat)(U:a.eval x=.slice (some ⟨S,0,none⟩) 1 1)(hS:w1.heap.size=S)
  (N:mw B w1 u l)(hB:B<=w1.heap.size)(hl:l.length<=1000000)
  (h:∀g c w2,Fp B w1 w2 u (.slice (some ⟨g,0,none⟩) (l.length+1) c) (l++[t])->K (a.put o.dst (.slice (some ⟨g,0,none⟩) (l.length+1) c)) w2):
  o.wp prog a (w1.alloc (.cells #[t.kind,t.text,t.pos] 63)) K Q:=by
 subst hS;obtain⟨O,hi,M,J,I⟩:=qE O1;refine vh _ s x 50 ho B 63 O _ 3 32 underlying50 hi M J I rfl (by omega) u l.length _ hs (qZ N _) ⟨w1,0,none⟩ 1 1 [.int .i64 t.kind,.string t.text,.int .i64 t.pos] U rfl
  (qv (cs:=#[t.kind,t.text,t.pos]) (qq _ _)) (Lj [t]) (by omega) (by unfold maxLen;omega) (by omega) (by rw[jO];omega) _ rfl ?_
 intro g c w2 hown1 D _ _;(have e:(l++[t]).flatMap nB=l.flatMap nB++[.int .i64 t.kind,.string t.text,.int .i64 t.pos]:=by rw[kI];rfl);(have hb:Below B w1 w2:=by have h1:=(gH B w1).alloc hB (.cells #[t.kind,t.text,t.pos] 63);exact h1.trans ⟨D.os,D.tape,D.output,D.size,fun k hk=>D.block k (by rw[jO];omega) (fun e=>by have:=(N.lt k e.symm).1;omega)⟩);refine h g c w2 ⟨?_,hb⟩;unfold mw;rw[e,gM];exact hown1
theorem DT{ops:Array Oper}{o:Oper}{a:Act}{K:Act->World->Prop}{Q:Exit->Act->World->Prop}{D:Prop}(I:o.guard=none)(s x:Operand)
  (N:o.op=.call { callee:=.builtin .append,args:=#[s,x],argTypes:=#[50,50] })
  (B:Nat)(w1:World)(u:Value)(l:List ef)(t:ef)(hs:a.eval s=u)(S:Nat)(J:a.eval x=.slice (some ⟨S,0,none⟩) 1 1)(U:w1.heap.size=S)
  (hO:mw B w1 u l)(hB:B<=w1.heap.size)(O:l.length<=1000000)
  (h:∀g c w2,Fp B w1 w2 u (.slice (some ⟨g,0,none⟩) (l.length+1) c) (l++[t])->K (a.put o.dst (.slice (some ⟨g,0,none⟩) (l.length+1) c)) w2):
  if Region.wanted o (yielded ops a.tmps)=true then Oper.wp prog o a (w1.alloc (.cells #[t.kind,t.text,t.pos] 63)) K Q else D:=by(have M:Region.wanted o (yielded ops a.tmps)=true:=by simp[Region.wanted,I]);rw[gG M];exact B9 s x N B w1 u l t hs S J U hO hB O h
theorem AP{ops:Array Oper}{rest:List Oper}{o:Oper}{a:Act}{Q:Exit->Act->World->Prop}(D:o.guard=none)(s x:Operand)
  (J:o.op=.call { callee:=.builtin .append,args:=#[s,x],argTypes:=#[50,50] })
  (B:Nat)(w1:World)(u:Value)(l:List ef)(t:ef)(hs:a.eval s=u)(S:Nat)(I:a.eval x=.slice (some ⟨S,0,none⟩) 1 1)(N:w1.heap.size=S)
  (O:mw B w1 u l)(hB:B<=w1.heap.size)(M:l.length<=1000000)
  (h:∀g c w2,Fp B w1 w2 u (.slice (some ⟨g,0,none⟩) (l.length+1) c) (l++[t])->wpList prog ops Q rest (a.put o.dst (.slice (some ⟨g,0,none⟩) (l.length+1) c)) w2):
  wpList prog ops Q (o::rest) a (w1.alloc (.cells #[t.kind,t.text,t.pos] 63)):=
 vj D fun _ hK=>B9 s x J B w1 u l t hs S I N O hB M fun g c w2 h1=>hK _ _ (h g c w2 h1)
def uc(s:ByteArray)(i:Nat)(lv:Value):Array Value:=#[s,(i:Int),lv,.slice none 0 0]
structure Gz(w:World)(X:Nat)(s:ByteArray)(i:Nat)(l:List ef)(lv:Value):Prop where
 blk:aq w X 76 (uc s i lv)
 toks:mw (X+1) w lv l
structure mc(w:World)(X:Nat)(s:ByteArray)(i:Nat)(l:List ef):Prop where
 out:∃lv,Gz w X s i l lv
 le:i<=s.size
 most:s.size<=65536
 few:l.length<=65537
section
variable {w w':World} {X:Nat} {s:ByteArray} {i:Nat} {l:List ef} {lv:Value}
theorem Gz.keep(h:Gz w X s i l lv)(D:∀b,X<=b->b<w.heap.size->w'.heap[b]? = w.heap[b]?):Gz w' X s i l lv:=
 ⟨(D X (gC _) h.blk.lt).trans h.blk,h.toks.keep fun b hb hlt=>D b (by omega) hlt⟩
theorem Gz.below(h:Gz w X s i l lv)(hb:Below w w w'):Gz w' X s i l lv:=h.keep fun b _ hlt=>hb.block b hlt
theorem Gz.set(h:Gz w X s i l lv)(j:Nat):Gz (w.setCell ⟨X,1,none⟩ (.int .i64 (j:Int))) X s j l lv:=
 ⟨by simpa[uc]using h.blk.set_ 1 (.int .i64 (j:Int)),h.toks.keep fun b hb _=>jU w ⟨X,1,none⟩ _ b (by show b≠X;omega)⟩
theorem Gz.row(h:Gz w X s i l lv){w2:World}{lv':Value}{l':List ef}(D:Fp (X+1) w w2 lv lv' l'):Gz (w2.setCell ⟨X,2,none⟩ lv') X s i l' lv':=by have hb:aq w2 X 76 (uc s i lv):=(D.bel.block X (by omega)).trans h.blk;exact⟨by simpa[uc]using hb.set_ 2 lv',D.own.keep fun b hb _=>jU w2 ⟨X,2,none⟩ _ b (by show b≠X;omega)⟩
theorem mc.keep(h:mc w X s i l)(D:∀b,X<=b->b<w.heap.size->w'.heap[b]? = w.heap[b]?):mc w' X s i l:=by obtain⟨lv,I⟩:=h.out;exact⟨⟨lv,I.keep D⟩,h.le,h.most,h.few⟩
theorem mc.below(h:mc w X s i l)(hb:Below w w w'):mc w' X s i l:=h.keep fun b _ hlt=>hb.block b hlt
theorem mc.lt(h:mc w X s i l):X<w.heap.size:=by obtain⟨lv,D⟩:=h.out;exact D.blk.lt
theorem mc.set(h:mc w X s i l)(j:Nat)(D:j<=s.size):mc (w.setCell ⟨X,1,none⟩ (.int .i64 (j:Int))) X s j l:=by obtain⟨lv,I⟩:=h.out;exact⟨⟨lv,I.set j⟩,D,h.most,h.few⟩
end
def yO(X:Nat)(s:ByteArray)(w:World)(i:Nat)(l:List ef)(v:Value)(e:Ending)(w':World):Prop:=
 e=.returned v/\mc w' X s i l/\Below X w w'
end
section
open Go.RowKit Go.Lib Go.Proofs
attribute [local go_sem ↓] Go.wp_at_zero Go.wp_at_succ
attribute [local go_sem] aR aS aT bu bv bw bz
theorem yP(E:cw)(F:fK)(hF:nE E F)(p:Int)(w:World)(s:St)(h:aU E w s)(gq:fv F p E.c s≠.out):
  Calls prog 166 #[E.R,p] w (mu E w (fv F p E.c s)):=by
 generalize hres:fv F p E.c s=res at *;have O:=hid hres;have gn:=hid gq;have gs:=h.lt;have gj:=(aA.refl h).alloc (.cells bJ 24);clear hres gq;(go_enter func166,ntmps166);go_wp2_with fail;cases M:ma F E.c s with
 |out=>exact absurd O.out.symm (by rw[fv,M];exact gn.out)
 | ok n s1=>
  have HE:Hid (eQ F p F.g [n] E.c s1=res):=hid (by rw[<-O.out,fv,M];rfl);refine(B8 E F hF _ s gj.rd (by rw[M];exact nofun)).mono ?_;rw[M];rintro e w1⟨⟨v,rfl,hv⟩,gg⟩;obtain⟨A,cp,rfl,hC⟩:=hv.toC;have gm:=(aq.new w 24 bJ).grown gg.gr;have gy:=gj.trans gg;have ha:=gm.lt;clear M O gg gj;go_wp2_with fail;refine(aM _ _ _ _ _ ⟨_,_,_,rfl⟩).mono ?_;rintro e w2⟨rfl,D⟩;have g2:=(aq.new w1 24 (nv n A cp)).below D (by simp);have g5:=(gm.alloc _).below D (by simp;omega);have gx:=(gy.alloc _).step D;(have hk:w1.heap.size+1<=w2.heap.size:=by have:=D.size;simp at this;omega);have g7:ik (w.heap.size+1) (fun b=>b=w2.heap.size) w2 (.slice (some ⟨w1,0,none⟩) 1 1) [n]:=
   ik.one (S:=w.heap.size+1) g2 (by omega) rfl (hC.mono fun b hb _=>by simpa using hb) (gC _)
    (fun b _ hlt=>(D.block b (by simp;omega)).trans (jI w1 _ b hlt)) (fun b _ hb=>by omega) (by omega)
  clear D g2 gm gy hC hv;go_wp2_with fail;have g0:=aq.new w2 24 #[.int .i64 14,.string ⟨#[]⟩,.slice (some ⟨w1,0,none⟩) 1 1,.int .i64 p];have g4:=g5.alloc (.cells #[.int .i64 14,.string ⟨#[]⟩,.slice (some ⟨w1,0,none⟩) 1 1,.int .i64 p] 24);have gw:=gx.alloc (.cells #[.int .i64 14,.string ⟨#[]⟩,.slice (some ⟨w1,0,none⟩) 1 1,.int .i64 p] 24);have g6:=g7.kept (((am.refl _ w2).alloc (.cells #[.int .i64 14,.string ⟨#[]⟩,.slice (some ⟨w1,0,none⟩) 1 1,.int .i64 p] 24)));generalize hL:w2.heap.size=L at *;(have hi:w.heap.size+1<L:=by omega);generalize w2.alloc (.cells #[.int .i64 14,.string ⟨#[]⟩,.slice (some ⟨w1,0,none⟩) 1 1,.int .i64 p] 24)=w3 at *;clear g7 g5 gx hL;go_loopg [12] F.g (fun g _ wr=>∃(acc:List Nd)(s':St)(u:Value),aq wr L 24 #[.int .i64 14,.string ⟨#[]⟩,u,.int .i64 p]/\ik (w.heap.size+1) (fun b=>b=L) wr u acc/\aq wr w.heap.size 24 bJ/\acc.length+g<=1000001/\eQ F p g acc E.c s'=res/\aA E s' w wr)
  case atStart=>exact⟨[n],s1,_,g0,g6,g4,by have:=hF.g;simp;omega,HE.out,gw⟩
  case round=>
   clear g0 g6 g4 gw HE;obtain⟨acc,s2,u,hL,HO,hG,hj,hr,hM⟩:=hrel;have HR:=hid hr;clear hr;cases gk with
   |zero=>exact absurd HR.out.symm (by rw[eQ];exact gn.out)
   | succ g1=>
    cases hA:aP E.c s2 ⟨#[124]⟩with
    |false=>have HF:Hid (res=.ok (.mk 14 ⟨#[]⟩ acc p) s2):=hid (by rw[<-HR.out,eQ];simp only[hA,gW,jW]);clear HR;go_wp2_with fail;refine(bB E s2 _ _ hM.rd hA).mono ?_;rintro e w4⟨rfl,U⟩;have N:=hL.bl U.bel;have gd:=hG.bl U.bel;have I:=HO.kept (am.of_below U.bel (fun b _ hlt=>hlt));obtain⟨A4,c4,ge,_⟩:=I.form;subst ge;obtain⟨x0,x1,x2,x3,_,_,_,_⟩:=ab N;obtain⟨d0,d1,d2,d3,e0,e1,e2,e3⟩:=ab gd;clear hA;go_wp2_with fail;refine av HF.out (af.of_slice I.values 14 ⟨#[]⟩ p) (hM.trans U.moved) gd (gC _) gs ?_ rfl (by rfl) rfl;rintro b⟨hb,_⟩;constructor<;>omega
    | true=>
     have HE:=hid (show(ma F E.c (adv s2)).bind (fun t s1=>eQ F p g1 (acc++[t]) E.c s1)=res by rw[<-HR.out,eQ];simp only[hA,kG]);clear HR;go_wp2_with fail;refine(aZ E s2 _ _ hM.rd hA).mono ?_;rintro e w4⟨rfl,gb⟩;have N:=hL.grown gb.gr;have gd:=hG.grown gb.gr;have I:=HO.grown gb.gr (by omega);have gv:=hM.trans gb;clear hA hL hG HO hM;obtain⟨A4,c4,ge,_⟩:=I.form;subst ge;obtain⟨x0,x1,x2,x3,y0,y1,y2,y3⟩:=ab N;have gi:=N.lt;cases M:ma F E.c (adv s2)with
     |out=>exact absurd HE.out.symm (by rw[M];exact gn.out)
     | ok n2 s3=>
      have hh:Hid (eQ F p g1 (acc++[n2]) E.c s3=res):=hid (by rw[<-HE.out,M];rfl);have HC:=hid (fun W(hr:aU E W (adv s2))=>B8 E F hF W (adv s2) hr (by rw[M];exact nofun));rw[M]at HC;clear HE M;go_wp2_with fail;(have gt:acc.length<=1000000:=by omega);(have gu:E.R<w.heap.size+1:=by omega);(have gp:w.heap.size+1<=w4.heap.size:=by omega);go_region_law (first
       |(refine fM (by rfl) (.tmp 14) (.tmp 17) (by rfl) E s3 (w.heap.size+1) w4.heap.size (fun b=>b=L) w w5 (.slice A4 acc.length c4) acc n2 A5 c5 (by rfl) (by rfl) hf hc (jN _) gu gp g9 (fun b hb=>by rw[hb];exact gi) (fun g hg=>(I.lt g hg).2) gt he ?_;intro g c w6 ga;have gz:aq w6 L 24 #[.int .i64 14,.string ⟨#[]⟩,.slice A4 acc.length c4,.int .i64 p]:=(ga.old L gh (.inl rfl)).trans gl;obtain⟨v0,v1,v2,v3,f0,f1,f2,f3⟩:=ab gz)
       |(go_simp;(go_at_call 208);refine(HC.out _ gv.drew.rd).mono ?_;rintro e w5⟨⟨v,rfl,g8⟩,J⟩;obtain⟨A5,c5,rfl,he⟩:=g8.toC;have gl:=N.drew.grown J.gr;have g3:=gd.drew.grown J.gr;have hf:=(I.kept ((am.refl _ _).drew)).grown J.gr gu;have hc:=gv.drew.trans J;have g9:w4.heap.size<=w5.heap.size:=J.gr.size;have gh:=gl.lt;obtain⟨z0,z1,z2,z3,_,_,_,_⟩:=ab gl))
      (all_goals go_wp2_with fail);all_goals
       go_roundg g1
       case measure=>omega
       case rel=>
        refine⟨acc++[n2],s3,_,by simpa using gz.set_ 2 (.slice (some ⟨g,0,none⟩) (acc.length+1) c),?_,?_,by rw[gM];simp;omega,hh.out,?_⟩
        ·exact ga.own.kept ((am.refl _ _).setCell (fun hX=>hX.2 rfl) _)
        ·exact aq.far (show aq w6 w.heap.size 24 bJ from(ga.old w.heap.size (by have:=g3.lt;omega) (.inr (by omega))).trans g3) (p:=⟨L,2,none⟩) (by show w.heap.size≠L;omega) _
        ·exact ga.mov.own (p:=⟨L,2,none⟩) (by show w.heap.size<=L;omega) (by show E.R<L;omega) _
end
end Go.Proofs.YteialcjaiocjdaaGreatDoor
