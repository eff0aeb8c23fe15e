/-
  Parts of the proof: Rstmt Rclos Runary Titer. By an AI agent.
-/
import Derived.Test.YteialcjaiocjdaaGreatDoorJ24
import Derived.Test.YteialcjaiocjdaaGreatDoorJ12
import Derived.RangeFuncNested
import Derived.RangeFuncBound
import Derived.RangeFuncCalls
import Derived.RangeFuncLeaves
import Derived.RangeFuncFrom
import Derived.RangeFuncKeeps
import Derived.Shelf.Abstract
import Derived.Shelf.RegionOpen
import Derived.WalkKit
import Derived.OwnWalkIn
import Derived.TacticsInMore
import Derived.LoopNIn
import Derived.LoopIn
open Go.Proofs.Tryz
set_option maxRecDepth 100000
set_option maxHeartbeats 8000000
namespace Go.Proofs.YteialcjaiocjdaaGreatDoor
section
open Go.RowKit Go.Lib Go.Proofs
attribute [local go_sem ↓] Go.wp_at_zero Go.wp_at_succ
attribute [local go_sem] aR aS aT bu bv bw bz
theorem jJ:type_of% @List.cons_append:=@List.cons_append
theorem qB:type_of% @Array.replicate_succ:=@Array.replicate_succ
theorem qC:type_of% @Array.replicate_zero:=@Array.replicate_zero
theorem qH:type_of% @List.append_toArray:=@List.append_toArray
theorem qR:type_of% @List.nil_append:=@List.nil_append
theorem qW:type_of% @List.size_toArray:=@List.size_toArray
theorem qX:type_of% @List.push_toArray:=@List.push_toArray
theorem Md(E:cw)(F:fK)(hF:nE E F)(hR:uV E F)(hS:uY E)(ji:Mb E):d9 E (iu F) 114:=by
 intro w s h hno;generalize D:iu F E.c s=res at *;have hw:=hid D;have ge:=hid hno;have J:=h.lt;clear D hno;(go_enter func114,ntmps114);go_wp2_with fail;refine(bL E s _ (h.alloc _)).mono ?_;unfold fY;rintro e w1⟨rfl,he⟩;have g5:=(((cJ.refl h).alloc _).step he).moved;have hf:=(aq.new w 24 bJ).below he (by simp);(have jn:w.heap.size+1<=w1.heap.size:=by have:=he.size;simp at this;omega);clear he;generalize hpp:aD E.c s=pp at *;have gs:=hid (show(if aP E.c s ⟨#[118,97,114]⟩then d7 F E.c s
  else if aP E.c s ⟨#[105,102]⟩then I3 F E.c s
  else if aP E.c s ⟨#[102,111,114]⟩then rj F E.c s
  else if aP E.c s ⟨#[123]⟩then bH F E.c s
  else if aP E.c s ⟨#[114,101,116,117,114,110]⟩then
   if d6 E.c (adv s)||aP E.c (adv s) ⟨#[125]⟩then .ok (.mk 33 ⟨#[]⟩ [cc] pp) (adv s)
   else(F.expr E.c (adv s)).bind fun x s1=>.ok (.mk 33 ⟨#[]⟩ [x] pp) s1
  else if aP E.c s ⟨#[98,114,101,97,107]⟩then .ok (.mk 34 ⟨#[]⟩ [] pp) (adv s)
  else if aP E.c s ⟨#[99,111,110,116,105,110,117,101]⟩then .ok (.mk 35 ⟨#[]⟩ [] pp) (adv s)
  else iC F E.c s)=res by rw[<-hw.out,<-hpp];rfl)
 rw[show(az E.c s.at_).pos=pp from hpp];clear hpp hw;go_wp2_with fail;cases g4:aP E.c s ⟨#[118,97,114]⟩with
 |true=>
  have HY:Hid (d7 F E.c s=res):=hid (by rw[<-gs.out,gG g4]);clear gs;refine(bY E s ⟨#[118,97,114]⟩ _ g5.rd).mono ?_;rw[g4];rintro e v1⟨rfl,hb⟩;have hr:=g5.step hb;have h6:=hf.bl hb;have gz:=hb.size;clear g4 hb g5 hf;go_wp2_with fail;refine(r9 E F hF _ s hr.rd (by rw[HY.out];exact ge.out)).mono ?_;rw[HY.out];cases D:res with
  |out=>exact absurd D ge.out
  |ok n5 s5=>rintro e w5⟨⟨v5,rfl,N⟩,O⟩;obtain⟨A5,c5,rfl,hg⟩:=N.toC;have U:=h6.grown O.gr;have gn:=hr.trans O;obtain⟨d0,d1,d2,d3,e0,e1,e2,e3⟩:=ab U;go_wp2_with fail;refine av (by first|rfl|exact D) N gn U (gC _) J ?_ rfl (by rfl) rfl;intro b hb;constructor<;>omega
 | false=>
  have hl:Hid (_=res):=hid ((gB (by rw[g4];decide)).symm.trans gs.out);clear gs;refine(bY E s ⟨#[118,97,114]⟩ _ g5.rd).mono ?_;rw[g4];rintro e u2⟨rfl,hb⟩;have gl:=g5.step hb;have gx:=hf.bl hb;have jg:=hb.size;clear g4 hb g5 hf;go_wp2_with fail;cases g3:aP E.c s ⟨#[105,102]⟩with
  |true=>
   have HY:Hid (I3 F E.c s=res):=hid (by rw[<-hl.out,gG g3]);clear hl;refine(bY E s ⟨#[105,102]⟩ _ gl.rd).mono ?_;rw[g3];rintro e v3⟨rfl,hb⟩;have hp:=gl.step hb;have h5:=gx.bl hb;have gz:=hb.size;clear g3 hb gl gx;go_wp2_with fail;refine(Mc E F hF _ s hp.rd (by rw[HY.out];exact ge.out)).mono ?_;rw[HY.out];cases D:res with
   |out=>exact absurd D ge.out
   |ok n5 s5=>rintro e w5⟨⟨v5,rfl,N⟩,O⟩;obtain⟨A5,c5,rfl,hg⟩:=N.toC;have U:=h5.grown O.gr;have gn:=hp.trans O;obtain⟨d0,d1,d2,d3,e0,e1,e2,e3⟩:=ab U;go_wp2_with fail;refine av (by first|rfl|exact D) N gn U (gC _) J ?_ rfl (by rfl) rfl;intro b hb;constructor<;>omega
  | false=>
   have hk:Hid (_=res):=hid ((gB (by rw[g3];decide)).symm.trans hl.out);clear hl;refine(bY E s ⟨#[105,102]⟩ _ gl.rd).mono ?_;rw[g3];rintro e u4⟨rfl,hb⟩;have gk:=gl.step hb;have gw:=gx.bl hb;have jf:=hb.size;clear g3 hb gl gx;go_wp2_with fail;cases g2:aP E.c s ⟨#[102,111,114]⟩with
   |true=>
    have HY:Hid (rj F E.c s=res):=hid (by rw[<-hk.out,gG g2]);clear hk;refine(bY E s ⟨#[102,111,114]⟩ _ gk.rd).mono ?_;rw[g2];rintro e v5⟨rfl,hb⟩;have ho:=gk.step hb;have h4:=gw.bl hb;have gz:=hb.size;clear g2 hb gk gw;go_wp2_with fail;refine(Pq E F hF hR hS ji _ s ho.rd (by rw[HY.out];exact ge.out)).mono ?_;rw[HY.out];cases D:res with
    |out=>exact absurd D ge.out
    |ok n5 s5=>rintro e w5⟨⟨v5,rfl,N⟩,O⟩;obtain⟨A5,c5,rfl,hg⟩:=N.toC;have U:=h4.grown O.gr;have gn:=ho.trans O;obtain⟨d0,d1,d2,d3,e0,e1,e2,e3⟩:=ab U;go_wp2_with fail;refine av (by first|rfl|exact D) N gn U (gC _) J ?_ rfl (by rfl) rfl;intro b hb;constructor<;>omega
   | false=>
    have hj:Hid (_=res):=hid ((gB (by rw[g2];decide)).symm.trans hk.out);clear hk;refine(bY E s ⟨#[102,111,114]⟩ _ gk.rd).mono ?_;rw[g2];rintro e u6⟨rfl,hb⟩;have gj:=gk.step hb;have gv:=gw.bl hb;have je:=hb.size;clear g2 hb gk gw;go_wp2_with fail;cases g1:aP E.c s ⟨#[123]⟩with
    |true=>
     have HY:Hid (bH F E.c s=res):=hid (by rw[<-hj.out,gG g1]);clear hj;refine(bY E s ⟨#[123]⟩ _ gj.rd).mono ?_;rw[g1];rintro e v7⟨rfl,hb⟩;have hn:=gj.step hb;have h3:=gv.bl hb;have gz:=hb.size;clear g1 hb gj gv;go_wp2_with fail;refine(iT E F hF _ s hn.rd (by rw[HY.out];exact ge.out)).mono ?_;rw[HY.out];cases D:res with
     |out=>exact absurd D ge.out
     |ok n5 s5=>rintro e w5⟨⟨v5,rfl,N⟩,O⟩;obtain⟨A5,c5,rfl,hg⟩:=N.toC;have U:=h3.grown O.gr;have gn:=hn.trans O;obtain⟨d0,d1,d2,d3,e0,e1,e2,e3⟩:=ab U;go_wp2_with fail;refine av (by first|rfl|exact D) N gn U (gC _) J ?_ rfl (by rfl) rfl;intro b hb;constructor<;>omega
    | false=>
     have hi:Hid (_=res):=hid ((gB (by rw[g1];decide)).symm.trans hj.out);clear hj;refine(bY E s ⟨#[123]⟩ _ gj.rd).mono ?_;rw[g1];rintro e u8⟨rfl,hb⟩;have gi:=gj.step hb;have gu:=gv.bl hb;have jd:=hb.size;clear g1 hb gj gv;go_wp2_with fail;cases g0:aP E.c s ⟨#[114,101,116,117,114,110]⟩with
     | true=>
      refine(aZ E s _ _ gi.rd g0).mono ?_;rintro e v9⟨rfl,hm⟩;have g8:=gi.trans hm;have ht:=gu.grown hm.gr;have gz:=hm.gr.size;have HY:=hid (hi.out.symm.trans (gG g0));clear hi hm gi gu g0;go_wp2_with fail;refine(B5 E (adv s) _ g8.rd).mono ?_;rintro e w6⟨rfl,ha⟩;have M:=g8.trans ha.moved;have I:=ht.bl ha.bel;have jm:=ha.bel.size;clear ha g8 ht;have h8:Go.RowKit.Hid (∀w7:World,aA E (adv s) w w7->aq w7 w.heap.size 24 bJ->w.heap.size+1<=w7.heap.size->True):=hid (fun _ _ _ _=>trivial);clear h8;cases hA:d6 E.c (adv s)with
      |true=>have HZ:=hid (show res=.ok (.mk 33 ⟨#[]⟩ [cc] pp) (adv s)by rw[HY.out,hA];rfl);clear HY hA;go_wp2_with fail;refine(aM _ _ _ _ _ ⟨_,_,_,rfl⟩).mono ?_;rintro e w9⟨rfl,gd⟩;have gt:=(I.alloc _).below gd (by have:=I.lt;simp;omega);have g9:=(M.alloc _).step gd;obtain⟨d0,d1,d2,d3,e0,e1,e2,e3⟩:=ab gt;go_wp2_with fail;have hV:=af.make 1 rfl (ah.one (eZ (X:=fun b=>w.heap.size+1<=b))) 33 ⟨#[]⟩ pp gd;refine av HZ.out hV g9 gt (gC _) J ?_ rfl (by rfl) rfl;rintro b(⟨hb,_⟩|rfl)<;>constructor<;>omega
      | false=>
       go_wp2_with fail;cases hB:aP E.c (adv s) ⟨#[125]⟩with
       |true=>have HZ:=hid (show res=.ok (.mk 33 ⟨#[]⟩ [cc] pp) (adv s)by rw[HY.out,hA,hB];rfl);refine(bY E (adv s) ⟨#[125]⟩ _ M.rd).mono ?_;rw[hB];rintro e w7⟨rfl,gm⟩;have M:=M.step gm;have I:=I.bl gm;have jh:=gm.size;clear HY hA hB gm;go_wp2_with fail;refine(aM _ _ _ _ _ ⟨_,_,_,rfl⟩).mono ?_;rintro e w9⟨rfl,gd⟩;have gt:=(I.alloc _).below gd (by have:=I.lt;simp;omega);have g9:=(M.alloc _).step gd;obtain⟨d0,d1,d2,d3,e0,e1,e2,e3⟩:=ab gt;go_wp2_with fail;have hV:=af.make 1 rfl (ah.one (eZ (X:=fun b=>w.heap.size+1<=b))) 33 ⟨#[]⟩ pp gd;refine av HZ.out hV g9 gt (gC _) J ?_ rfl (by rfl) rfl;rintro b(⟨hb,_⟩|rfl)<;>constructor<;>omega
       |false=>
        have HZ:=hid (show(F.expr E.c (adv s)).bind (fun x s1=>.ok (.mk 33 ⟨#[]⟩ [x] pp) s1)=res by rw[HY.out,hA,hB];rfl);refine(bY E (adv s) ⟨#[125]⟩ _ M.rd).mono ?_;rw[hB];rintro e w7⟨rfl,gm⟩;have M:=M.step gm;have I:=I.bl gm;have jh:=gm.size;clear HY hA hB gm;go_wp2_with fail;cases hP:F.expr E.c (adv s)with
        |out=>exact absurd HZ.out.symm (by rw[hP];exact ge.out)
        |ok n1 s3=>have HF:Hid (res=.ok (.mk 33 ⟨#[]⟩ [n1] pp) s3):=hid (by rw[<-HZ.out,hP];rfl);refine(hF.expr _ (adv s) M.rd (by rw[hP];exact nofun)).mono ?_;rw[hP];rintro e w8⟨⟨v,rfl,hv⟩,hc⟩;obtain⟨A8,c8,rfl,jk⟩:=hv.toC;have jl:=hc.gr.size;have h7:=I.grown hc.gr;have jj:=M.trans hc;clear hP HZ M I hc hv;go_wp2_with fail;refine(aM _ _ _ _ _ ⟨_,_,_,rfl⟩).mono ?_;rintro e w9⟨rfl,gd⟩;have gt:=(h7.alloc _).below gd (by have:=h7.lt;simp;omega);have g9:=(jj.alloc _).step gd;obtain⟨d0,d1,d2,d3,e0,e1,e2,e3⟩:=ab gt;go_wp2_with fail;have hV:=af.make 1 rfl (ah.one (jk.mono (Y:=fun b=>w.heap.size+1<=b) fun b hb _=>by omega)) 33 ⟨#[]⟩ pp gd;refine av HF.out hV g9 gt (gC _) J ?_ rfl (by rfl) rfl;rintro b(⟨hb,_⟩|rfl)<;>constructor<;>omega
     | false=>
      have hh:Hid (_=res):=hid ((gB (by rw[g0];decide)).symm.trans hi.out);clear hi;refine(bB E s _ _ gi.rd g0).mono ?_;rintro e u10⟨rfl,hq⟩;have gb:=gi.trans hq.moved;have gq:=gu.bl hq.bel;have jc:=hq.bel.size;clear g0 hq gi gu;go_wp2_with fail;cases gh:aP E.c s ⟨#[98,114,101,97,107]⟩with
      |true=>refine(aZ E s _ _ gb.rd gh).mono ?_;rintro e v11⟨rfl,hm⟩;have hz:=gb.trans hm;have h2:=gq.grown hm.gr;have gz:=hm.gr.size;have HY:=hid (hh.out.symm.trans (gG gh));clear hh hm gb gq gh;go_wp2_with fail;refine(aM _ _ _ _ _ ⟨_,_,_,rfl⟩).mono ?_;rintro e w6⟨rfl,g6⟩;have I:=h2.bl g6;have M:=hz.step g6;obtain⟨d0,d1,d2,d3,e0,e1,e2,e3⟩:=ab I;go_wp2_with fail;refine av (X:=fun b=>w.heap.size+1<=b) HY.out (af.leaf 34 ⟨#[]⟩ pp) M I (gC _) J ?_ rfl (by rfl) rfl;intro b hb;constructor<;>omega
      | false=>
       have gy:Hid (_=res):=hid ((gB (by rw[gh];decide)).symm.trans hh.out);clear hh;refine(bB E s _ _ gb.rd gh).mono ?_;rintro e u12⟨rfl,hq⟩;have ga:=gb.trans hq.moved;have gp:=gq.bl hq.bel;have jb:=hq.bel.size;clear gh hq gb gq;go_wp2_with fail;cases gg:aP E.c s ⟨#[99,111,110,116,105,110,117,101]⟩with
       |true=>refine(aZ E s _ _ ga.rd gg).mono ?_;rintro e v13⟨rfl,hm⟩;have hy:=ga.trans hm;have h1:=gp.grown hm.gr;have gz:=hm.gr.size;have HY:=hid (gy.out.symm.trans (gG gg));clear gy hm ga gp gg;go_wp2_with fail;refine(aM _ _ _ _ _ ⟨_,_,_,rfl⟩).mono ?_;rintro e w6⟨rfl,g6⟩;have I:=h1.bl g6;have M:=hy.step g6;obtain⟨d0,d1,d2,d3,e0,e1,e2,e3⟩:=ab I;go_wp2_with fail;refine av (X:=fun b=>w.heap.size+1<=b) HY.out (af.leaf 35 ⟨#[]⟩ pp) M I (gC _) J ?_ rfl (by rfl) rfl;intro b hb;constructor<;>omega
       |false=>
        have hu:Hid (_=res):=hid ((gB (by rw[gg];decide)).symm.trans gy.out);clear gy;refine(bB E s _ _ ga.rd gg).mono ?_;rintro e u14⟨rfl,hq⟩;have g7:=ga.trans hq.moved;have h0:=gp.bl hq.bel;have ja:=hq.bel.size;clear gg hq ga gp;go_wp2_with fail;refine(uW E F hF hR _ s g7.rd (by rw[hu.out];exact ge.out)).mono ?_;rw[hu.out];cases D:res with
        |out=>exact absurd D ge.out
        |ok n5 s5=>rintro e w5⟨⟨v5,rfl,N⟩,O⟩;obtain⟨A5,c5,rfl,hg⟩:=N.toC;have U:=h0.grown O.gr;have gn:=g7.trans O;obtain⟨d0,d1,d2,d3,e0,e1,e2,e3⟩:=ab U;go_wp2_with fail;refine av (by first|rfl|exact D) N gn U (gC _) J ?_ rfl (by rfl) rfl;intro b hb;constructor<;>omega
theorem CK(E:cw)(F:fK)(hF:nE E F)(B:Nat)(w0:World)(hB:w0.cell? ⟨B,0,none⟩=some (.pointer (some ⟨E.R,0,none⟩)))(J:B≠E.R):
  sN E 216 #[B] (bh F.expr ⟨#[125]⟩ F.g []) w0:=by
 intro w s hgr h hno;have O:=hgr.cell hB (fun e=>J (by injection e));have I:=hid (oa E 32 #[E.R] #[] F.expr ⟨#[125]⟩ F.g s w h (fun a w=>by kernel_rfl) (show ie E 32 (#[.pointer (some ⟨E.R,0,none⟩)] ++ #[]) F.expr w from hF.expr.part w) hno hF.g);generalize hres:bh F.expr ⟨#[125]⟩ F.g [] E.c s=res at *;clear hres hB hgr;have M:=hid hno;clear hno;(go_enter func216,ntmps216);go_wp2_with fail;refine I.out.mono ?_;cases res with
 |out=>exact absurd rfl M.out
 |ok l s1=>rintro e w2⟨⟨v,rfl,N⟩,D⟩;go_wp2_with fail;go_ret;exact⟨⟨_,rfl,N⟩,D⟩
theorem G1(E:cw)(F:fK)(hF:nE E F)(B:Nat)(w0:World)(hB:w0.cell? ⟨B,0,none⟩=some (.pointer (some ⟨E.R,0,none⟩)))(J:B≠E.R):
  sN E 174 #[B] (bh F.expr ⟨#[41]⟩ F.g []) w0:=by
 intro w s hgr h hno;have O:=hgr.cell hB (fun e=>J (by injection e));have I:=hid (oa E 32 #[E.R] #[] F.expr ⟨#[41]⟩ F.g s w h (fun a w=>by kernel_rfl) (show ie E 32 (#[.pointer (some ⟨E.R,0,none⟩)] ++ #[]) F.expr w from hF.expr.part w) hno hF.g);generalize hres:bh F.expr ⟨#[41]⟩ F.g [] E.c s=res at *;clear hres hB hgr;have M:=hid hno;clear hno;(go_enter func174,ntmps174);go_wp2_with fail;refine I.out.mono ?_;cases res with
 |out=>exact absurd rfl M.out
 |ok l s1=>rintro e w2⟨⟨v,rfl,N⟩,D⟩;go_wp2_with fail;go_ret;exact⟨⟨_,rfl,N⟩,D⟩
theorem G2(E:cw)(F:fK)(hF:nE E F)(B:Nat)(w0:World)(hB:w0.cell? ⟨B,0,none⟩=some (.pointer (some ⟨E.R,0,none⟩)))(J:B≠E.R):
  sN E 175 #[B] (bh (cX F) ⟨#[93]⟩ F.g []) w0:=by
 intro w s hgr h hno;have O:=hgr.cell hB (fun e=>J (by injection e));have I:=hid (oa E 176 #[E.R] #[] (cX F) ⟨#[93]⟩ F.g s w h (fun a w=>by kernel_rfl) (show ie E 176 (#[.pointer (some ⟨E.R,0,none⟩)] ++ #[]) (cX F) w from(uX E F hF).part w) hno hF.g);generalize hres:bh (cX F) ⟨#[93]⟩ F.g [] E.c s=res at *;clear hres hB hgr;have M:=hid hno;clear hno;(go_enter func175,ntmps175);go_wp2_with fail;refine I.out.mono ?_;cases res with
 |out=>exact absurd rfl M.out
 |ok l s1=>rintro e w2⟨⟨v,rfl,N⟩,D⟩;go_wp2_with fail;go_ret;exact⟨⟨_,rfl,N⟩,D⟩
theorem iN{w:World}{T:Nat}{t:TypeId}{a b c:Value}(h:aq w T t #[a,b,c]):w.cell? ⟨T,1,none⟩=some b/\w.cell? ⟨T,2,none⟩=some c:=
 ⟨(h.cell 1).trans rfl,(h.cell 2).trans rfl⟩
theorem G7(E:cw)(F:fK)(hF:nE E F)(hP:d9 E (lU F) 117):d9 E (ly F) 80:=by
 intro w s h hno;generalize O:ly F E.c s=res at *;have gt:=hid hno;have gg:=h.lt;have J:=hid (show(if aP E.c s ⟨#[45]⟩||aP E.c s ⟨#[33]⟩then(F.unary E.c (adv s)).bind fun x s1=>.ok (.mk 19 (az E.c s.at_).text [x] (az E.c s.at_).pos) s1 else lU F E.c s)=res from O);clear O hno;(go_enter func80,ntmps80);go_wp2_with fail;refine(bL E s _ (h.alloc _)).mono ?_;unfold fY;rintro e w1⟨rfl,gm⟩;have g6:=(((cJ.refl h).alloc _).step gm).moved;have g8:=(aq.new w 24 bJ).below gm (by simp);(have hj:w.heap.size+1<=w1.heap.size:=by have:=gm.size;simp at this;omega);clear gm;generalize az E.c s.at_=tk at *;have gp:=aq.new w1 63 #[tk.kind,tk.text,tk.pos];have gs:=g8.alloc (.cells #[tk.kind,tk.text,tk.pos] 63);have gd:=g6.alloc (.cells #[tk.kind,tk.text,tk.pos] 63);(have hi:w1.heap.size+1<=(w1.alloc (.cells #[tk.kind,tk.text,tk.pos] 63)).heap.size:=by simp);(go_upto_region 2 with fail);generalize hTT:w1.heap.size=T at *;change Code.wp _ _ _ _ (w1.alloc (.cells #[tk.kind,tk.text,tk.pos] 63));generalize w1.alloc (.cells #[tk.kind,tk.text,tk.pos] 63)=w2 at *;(have U:T≠w.heap.size:=by omega);(have gn:T≠E.R:=by omega);clear hTT g8 g6;go_wp2_with fail;cases hA:aP E.c s ⟨#[45]⟩with
 | true=>
  have HE:=hid (show(F.unary E.c (adv s)).bind (fun x s1=>.ok (.mk 19 tk.text [x] tk.pos) s1)=res by rw[<-J.out,gG (by rw[hA];rfl)]);refine(aZ E s _ _ gd.rd hA).mono ?_;rintro e w7⟨rfl,I⟩;have ga:=gp.grown I.gr (fun e=>gn (by injection e));have gk:=gs.grown I.gr;have gi:=gd.trans I;have hc:=I.gr.size;clear J hA gp gs gd I;have s7:=iN ga;have gw:=iN ga.drew;go_wp2_with fail;cases hQ:F.unary E.c (adv s)with
  |out=>exact absurd HE.out.symm (by rw[hQ];exact gt.out)
  | ok n8 s8=>
   have HF:Hid (res=.ok (.mk 19 tk.text [n8] tk.pos) s8):=hid (by rw[<-HE.out,hQ];rfl);have HC:=hid (fun W(hr:aU E W (adv s))=>hF.unary W (adv s) hr (by rw[hQ];exact nofun));rw[hQ]at HC;clear HE hQ;go_region_held3 (fun w'=>w'.cell? ⟨T,1,none⟩=some (.string tk.text)/\w'.cell? ⟨T,2,none⟩=some (.int .i64 tk.pos))
    (first|with_reducible exact s9 _ _ _ _|with_reducible exact gu|with_reducible exact gv _|with_reducible exact s8|with_reducible exact gw|with_reducible exact s7)
    (first
     |(go_at_call 80;refine(HC.out _ gi.drew.rd).mono ?_;rintro e w8⟨⟨v,rfl,hv⟩,D⟩;obtain⟨An,cn,rfl,gx⟩:=hv.toC;have N:=ga.drew.grown D.gr (fun e=>gn (by injection e));have s8:=iN N;have gv:=fun o:Obj=>iN (N.alloc o))
     |(go_at_call 55;refine(aM _ _ _ _ _ ⟨_,_,_,rfl⟩).mono ?_;rintro e w9⟨rfl,M⟩;have gh:=(N.alloc _).below M (by have:=N.lt;simp;omega);have gu:=iN gh;have s9:=fun a b c d:Value=>iN ((((gh.far (p:=⟨w,0,none⟩) (by exact U) a).far (p:=⟨w,1,none⟩) (by exact U) b).far (p:=⟨w,2,none⟩) (by exact U) c).far (p:=⟨w,3,none⟩) (by exact U) d);have gj:=((gk.drew.grown D.gr).alloc _).below M (by have:=(gk.drew.grown D.gr).lt;simp;omega);obtain⟨g0,g1,g2,g3,k0,k1,k2,k3⟩:=ab gj))
   (all_goals go_wp2_with fail);all_goals have ha:w7.heap.size<=w8.heap.size:=D.gr.size;have g9:w7.drew.heap.size=w7.heap.size:=rfl;have hV:=af.make 1 rfl (ah.one (gx.mono (Y:=fun b=>w.heap.size+1<=b) fun b hb _=>by omega)) 19 tk.text tk.pos M;refine av HF.out hV (((gi.drew.trans D).alloc _).step M) gj (gC _) gg ?_ rfl (by rfl) rfl;rintro b(⟨hb,_⟩|rfl)<;>constructor<;>omega
 | false=>
  refine(bB E s _ _ gd.rd hA).mono ?_;rintro e w3⟨rfl,ge⟩;have g4:=gp.bl ge.bel;have gq:=gs.bl ge.bel;have gb:=gd.trans ge.moved;have hh:=ge.bel.size;clear gp gs gd ge;go_wp2_with fail;cases hB:aP E.c s ⟨#[33]⟩with
  | true=>
   have HE:=hid (show(F.unary E.c (adv s)).bind (fun x s1=>.ok (.mk 19 tk.text [x] tk.pos) s1)=res by rw[<-J.out,gG (by rw[hA,hB];rfl)]);refine(aZ E s _ _ gb.rd hB).mono ?_;rintro e w7⟨rfl,I⟩;have ga:=g4.grown I.gr (fun e=>gn (by injection e));have gk:=gq.grown I.gr;have gi:=gb.trans I;have hc:=I.gr.size;clear J hA hB g4 gq gb I;have s7:=iN ga;have gw:=iN ga.drew;go_wp2_with fail;cases hQ:F.unary E.c (adv s)with
   |out=>exact absurd HE.out.symm (by rw[hQ];exact gt.out)
   | ok n8 s8=>
    have HF:Hid (res=.ok (.mk 19 tk.text [n8] tk.pos) s8):=hid (by rw[<-HE.out,hQ];rfl);have HC:=hid (fun W(hr:aU E W (adv s))=>hF.unary W (adv s) hr (by rw[hQ];exact nofun));rw[hQ]at HC;clear HE hQ;go_region_held3 (fun w'=>w'.cell? ⟨T,1,none⟩=some (.string tk.text)/\w'.cell? ⟨T,2,none⟩=some (.int .i64 tk.pos))
     (first|with_reducible exact s9 _ _ _ _|with_reducible exact gu|with_reducible exact gv _|with_reducible exact s8|with_reducible exact gw|with_reducible exact s7)
     (first
      |(go_at_call 80;refine(HC.out _ gi.drew.rd).mono ?_;rintro e w8⟨⟨v,rfl,hv⟩,D⟩;obtain⟨An,cn,rfl,gx⟩:=hv.toC;have N:=ga.drew.grown D.gr (fun e=>gn (by injection e));have s8:=iN N;have gv:=fun o:Obj=>iN (N.alloc o))
      |(go_at_call 55;refine(aM _ _ _ _ _ ⟨_,_,_,rfl⟩).mono ?_;rintro e w9⟨rfl,M⟩;have gh:=(N.alloc _).below M (by have:=N.lt;simp;omega);have gu:=iN gh;have s9:=fun a b c d:Value=>iN ((((gh.far (p:=⟨w,0,none⟩) (by exact U) a).far (p:=⟨w,1,none⟩) (by exact U) b).far (p:=⟨w,2,none⟩) (by exact U) c).far (p:=⟨w,3,none⟩) (by exact U) d);have gj:=((gk.drew.grown D.gr).alloc _).below M (by have:=(gk.drew.grown D.gr).lt;simp;omega);obtain⟨g0,g1,g2,g3,k0,k1,k2,k3⟩:=ab gj))
    (all_goals go_wp2_with fail);all_goals have ha:w7.heap.size<=w8.heap.size:=D.gr.size;have g9:w7.drew.heap.size=w7.heap.size:=rfl;have hV:=af.make 1 rfl (ah.one (gx.mono (Y:=fun b=>w.heap.size+1<=b) fun b hb _=>by omega)) 19 tk.text tk.pos M;refine av HF.out hV (((gi.drew.trans D).alloc _).step M) gj (gC _) gg ?_ rfl (by rfl) rfl;rintro b(⟨hb,_⟩|rfl)<;>constructor<;>omega
  |false=>
   have HE:Hid (lU F E.c s=res):=hid (by rw[<-J.out,gB (by rw[hA,hB];decide)]);refine(bB E s _ _ gb.rd hB).mono ?_;rintro e w4⟨rfl,gl⟩;have hf:=gq.bl gl.bel;have g5:=gb.trans gl.moved;have hg:=gl.bel.size;clear J hA hB gq gb gl;go_wp2_with fail;refine(hP _ s g5.rd (by rw[HE.out];exact gt.out)).mono ?_;rw[HE.out];cases O:res with
   |out=>exact absurd O gt.out
   |ok n5 s5=>rintro e w5⟨⟨v5,rfl,gy⟩,gz⟩;obtain⟨A5,c5,rfl,hk⟩:=gy.toC;have g7:=hf.grown gz.gr;have he:=g5.trans gz;obtain⟨d0,d1,d2,d3,e0,e1,e2,e3⟩:=ab g7;go_wp2_with fail;refine av (by first|rfl|exact O) gy he g7 (gC _) gg ?_ rfl (by rfl) rfl;intro b hb;constructor<;>omega
end
section
open Go.RowKit Go.Lib Go.Proofs Go.Shelf
attribute [local go_sem ↓] Go.wp_at_zero Go.wp_at_succ
attribute [local go_sem] Oper.semAt_some
structure yY(n₀ OB:Nat)(W W':World):Prop where
 bel:Below n₀ W W'
 row:∀k,k≠OB->(∃c t f,W.heap[k]? = some (.cells c t f))->W'.heap[k]? = W.heap[k]?
theorem yY.trans{n₀ OB:Nat}{A B C:World}(h:yY n₀ OB A B)(k:yY n₀ OB B C):yY n₀ OB A C:=
 ⟨h.bel.trans k.bel,fun j hj D=>by have e:=h.row j hj D;obtain⟨c,t,f,D⟩:=D;exact(k.row j hj ⟨c,t,f,e.trans D⟩).trans e⟩
theorem yY.refl(n₀ OB:Nat)(W:World):yY n₀ OB W W:=⟨gH _ _,fun _ _ _=>rfl⟩
theorem yY.alloc{n₀ OB:Nat}{A W:World}(h:yY n₀ OB A W)(I:n₀<=W.heap.size)(o:Obj):yY n₀ OB A (W.alloc o):=
 h.trans ⟨(gH _ _).alloc I o,fun k _ D=>by obtain⟨c,t,f,D⟩:=D;exact jI W o k (Array.getElem?_eq_some_iff.1 D).1⟩
theorem yY.blk{n₀ OB:Nat}{W W':World}(h:yY n₀ OB W W'){b:Nat}{t:TypeId}{cs:Array Value}(hb:aq W b t cs)(D:b≠OB):aq W' b t cs:=
 (h.row b D ⟨cs,t,(0,0),hb⟩).trans hb
theorem FE{n₀ OB:Nat}{w:World}(M:n₀<=w.heap.size)(W:World)(l:Nat)(o o':Obj)(N:w.heap.size<=l)(h:W.heap[l]? = some o)(I:o.isCells=false)(J:o.isWalk=false):yY n₀ OB W (W.putObj l o'):=
 ⟨belowK_b M W l o o' N h I J,fun k _ D=>by obtain⟨c,t,f,D⟩:=D;refine World.putObj_heap_other (fun e=>?_);subst e;rw[h]at D;injection D with D;subst D;cases I⟩
abbrev YV:=Value×{ k:Nat // k<=1000 }
def yZ(x:YV):Array Value:=#[x.1,.int .i64 (x.2.1:Int)]
theorem Pm(l n₀ OB N:Nat)(J Jx:List YV->World->Prop)(hJ:∀s W o,J s W->J s (W.alloc o))
  (hY:∀m pre x W,J pre W->pre.length<N->YieldAt Fence.wide m prog l (yZ x) W fun e W'=>(e=.returned (.bool true)/\J (pre++[x]) W'/\yY n₀ OB W W')\/(e=.returned (.bool false)/\Jx (pre++[x]) W')):
  ∀ (g k:Nat)(v:Value)(n:Nd)(pre:List YV)(W:World),g<=1000->af (· < n₀) W v n->rn g n->J pre W->n₀<=W.heap.size->OB<W.heap.size->pre.length+(aO g n).length<=N ->
    CallsIn Fence.wide k prog 165 #[v,.int .i64 (g:Int),.func (.yield l) #[] #[]] W fun e W'=>
     (e=.returned (.bool true)/\(∃ys,ys.map (·.2.1)=aO g n/\J (pre++ys) W')/\yY n₀ OB W W')\/(e=.returned (.bool false)/\∃q,Jx q W'):=by
 intro g;induction g with
 |zero=>
  intro k v n pre W _ hv _ U hn _ _;obtain⟨A,cp,rfl,hC⟩:=hv.toC;have O:=hid (hJ _ _ (.cells (nv n A cp) 24) U);refine callsIn_of_wp func165 rfl trivial ?_ rfl;simp only[ntmps165,qW,gO,qd,Nat.reduceAdd,Nat.reduceSub,qB,qC,qX,qH,qR,jJ]
  gi_wp2
  go_ret;exact .inl ⟨rfl,⟨[],rfl,by simpa using O.out⟩,(yY.refl _ _ _).alloc hn _⟩
 | succ g ih=>
  intro k v n pre W hg hv hw U hn hob hN;have gs:=hv;obtain⟨A,cp,rfl,hC⟩:=hv.toC;(have gr:∀k:Nat,((Fence.wide).depth.isSome=true->1<=k):=fun k h=>by cases h);have O:=hid (hJ _ _ (.cells (nv n A cp) 24) U);have b1:=(aj W (nv n A cp)).2;(have hz:((g:Int)+1==0)=false:=by simp;omega);rw[aO,gO]at hN;obtain⟨fn,tmps,assign,body,hy,hR⟩:=hY (k-1) pre (.agg (nv n A cp),⟨g+1,hg⟩) _ O.out (by omega);refine callsIn_of_wp func165 rfl trivial ?_ rfl;simp only[ntmps165,qW,gO,qd,Nat.reduceAdd,Nat.reduceSub,qB,qC,qX,qH,qR,jJ];have gx:(Instr.yield l #[.agg (nv n A cp),.int .i64 ((g:Int)+1)]).run prog (W.alloc (.cells (nv n A cp) 24))=.ok (.round l fn tmps assign body) (W.alloc (.cells (nv n A cp) 24)):=hy;have HN:=hid hN;have HW:=hid hw;have HV:=hid gs;have HH:=hid hY;have HI:=hid ih;have g4:=hid hJ;have gv:=hid ((yY.refl n₀ OB W).alloc hn (.cells (nv n A cp) 24));clear hy gs hv hC hN hw U hY ih hJ
  gi_wp2
  refine⟨gr _,hR.mono ?_⟩;rintro e W1(⟨rfl,gq,M⟩|⟨rfl,gi⟩)
  case inr=>
   have g1:=hid gi;clear gi
   gi_wp2
   go_ret;exact .inr ⟨rfl,_,g1.out⟩
  have c1:=M.blk b1 (by omega);obtain⟨x0,x1,x2,x3,_,_,_,_⟩:=ab c1;have g7:=hid gq;have g3:=hid (gv.out.trans M);have gy:=M.bel.size;simp at gy;clear hR gq M O gx b1 gv
  gi_wp2
  generalize hpre:pre++[((.agg (nv n A cp):Value),(⟨g+1,hg⟩:{ k:Nat // k<=1000 }))]=D at *;(have yk:D.length=pre.length+1:=by rw[<-hpre];simp);have gu:=hid hpre;clear hpre;have g9:=HW.out.1.1
  gi_loopw [8,19] (fun _ u19 wr=>∃(i:Nat)(ys:List YV),i<=n.kids.length/\u19=.int .i64 (i:Int)/\ys.map (·.2.1)=(n.kids.take i).flatMap (aO g)/\J (D++ys) wr/\yY n₀ OB W wr) (fun _ u19 _=>n.kids.length-(RowKit.intOf u19).toNat)
  case atStart=>exact⟨0,[],gQ _,rfl,rfl,by simpa using g7.out,g3.out⟩
  case round=>
   clear x0 x1 x2 x3 c1;obtain⟨i,ys,hi,rfl,ge,U,hk⟩:=hrel;have ga:=hid ge;have gw:=hid U;clear ge U;by_cases I:i<n.kids.length
   ·(have gj:(i:Int)<(n.kids.length:Int):=by omega);(have h0:(0:Int)<=(i:Int):=by omega);obtain⟨b,off,A1,gt,rfl,ha,hc,k0,k1,k2,k3,gm⟩:=(HV.out.keep (fun b hb _=>hk.bel.block b hb)).kidsV.kid i I;have HM:=hid (gS I);have gb:=hid (show(n.kids.take (i+1)).flatMap (aO g)=(n.kids.take i).flatMap (aO g)++aO g n.kids[i]by rw[gU I,kI];simp);(have gl:((n.kids.take (i+1)).flatMap (aO g)).length<=(n.kids.flatMap (aO g)).length:=by(conv=>rhs;rw[<-qN (i+1) n.kids,kI]);rw[gM];omega);generalize n.kids[i]=x at *;(have gg:ys.length=((n.kids.take i).flatMap (aO g)).length:=by rw[<-ga.out,jR]);have g8:=hk.bel.size;have HC:=hid (HI.out (k-1) _ x (D++ys) _ (by omega) (gm.keep (w':=wr.alloc (.cells (nv x A1 gt) 24)) (fun b _ I=>jI wr _ b I)) (HW.out.2 x HM.out) (g4.out _ _ (.cells (nv x A1 gt) 24) gw.out) (by simp;omega) (by simp;omega) (by have:=HN.out;rw[gb.out,gM]at gl;rw[gM,yk,gg];omega));clear gm gl gg
    gi_wp2
    refine⟨trivial,gr _,HC.out.mono ?_⟩;rintro e W2(⟨rfl,⟨zs,gd,gp⟩,gn⟩|⟨rfl,q,gh⟩)
    case inr=>
     have g0:=hid gh;clear gh
     gi_wp2
     go_ret;exact .inr ⟨rfl,_,g0.out⟩
    have HZ:=hid (show(ys++zs).map (·.2.1)=(n.kids.take (i+1)).flatMap (aO g)by rw[kS,ga.out,gd,gb.out]);have g6:Hid (J (D++(ys++zs)) W2):=hid (by rw[<-gL];exact gp);have g2:=hid ((hk.alloc (by omega) _).trans gn);clear HC gd gp gn gb k0 k1 k2 k3
    gi_wp2
    go_roundw
    case rel=>exact⟨i+1,ys++zs,by omega,by go_num,HZ.out,g6.out,g2.out⟩
    case measure=>simp[RowKit.intOf];omega
   ·(have gj:¬ (i:Int)<(n.kids.length:Int):=by omega);have ht:n.kids.take i=n.kids:=gV (by omega);have gz:=hid (show(((.agg (nv n A cp):Value),(⟨g+1,hg⟩:{ k:Nat // k<=1000 }))::ys).map (·.2.1)=aO (g+1) n by rw[aO,jT,ga.out,ht]);have g5:Hid (J (pre++((.agg (nv n A cp):Value),(⟨g+1,hg⟩:{ k:Nat // k<=1000 }))::ys) wr):=hid (by have:=gw.out;rw[<-gu.out,gL]at this;simpa using this);clear ht
    gi_wp2
    go_ret;exact .inl ⟨rfl,⟨_,gz.out,g5.out⟩,hk⟩
theorem y5(l n₀ OB k g:Nat)(v:Value)(n:Nd)(J Jx:List YV->World->Prop)(hJ:∀s W o,J s W->J s (W.alloc o))
  (hY:∀pre x W,J pre W->pre.length<(aO g n).length->YieldAt Fence.wide (k-1) prog l (yZ x) W fun e W'=>(e=.returned (.bool true)/\J (pre++[x]) W'/\yY n₀ OB W W')\/(e=.returned (.bool false)/\Jx (pre++[x]) W'))
  (W:World)(bn bd:Nat)(A:Option Addr)(cp:Nat)(he:v=.agg (nv n A cp))(hg:g<=1000)(I:aq W bn 24 (nv n A cp))(M:aq W bd 3 #[(g:Int)])
  (hv:af (· < n₀) W v n)(hw:rn g n)(hn:n₀<=W.heap.size)(U:OB<W.heap.size)(h0:J [] W):
  CallsIn Fence.wide k prog 164 #[.func (.yield l) #[] #[],.pointer (some ⟨bn,0,none⟩),.pointer (some ⟨bd,0,none⟩)] W fun e W'=>(∃v,e=.returned v)/\((∃ys,ys.map (·.2.1)=aO g n/\J ys W')\/(∃q:List YV,True/\Jx q W')):=by
 (have ga:∀k:Nat,((Fence.wide).depth.isSome=true->1<=k):=fun k h=>by cases h);have O:=hid (Pm l n₀ OB (aO g n).length J Jx hJ (fun m pre x W N hl=>by obtain⟨fn,tmps,assign,body,hy,hR⟩:=hY pre x W N hl;exact⟨fn,tmps,assign,body,hy,⟨hR.1,fun c cs _=>hR.2 c cs (fun d h=>by cases h)⟩⟩) g (k-1) v n [] W hg hv hw h0 hn U (by simp));obtain⟨x0,x1,x2,x3,_,_,_,_⟩:=ab I;have hd:=ce M;subst he;clear hv hY hJ I M hw;refine callsIn_of_wp func164 rfl trivial ?_ rfl;simp only[ntmps164,qW,gO,qd,Nat.reduceAdd,Nat.reduceSub,qB,qC,qX,qH,qR,jJ]
 gi_wp2
 refine⟨trivial,ga _,O.out.mono ?_⟩;rintro e W1(⟨rfl,⟨ys,D,N⟩,hk⟩|⟨rfl,q,hx⟩)
 ·have gb:=hid D;have gd:=hid N;clear D N O
  gi_wp2
  go_end0;exact⟨⟨_,rfl⟩,.inl ⟨ys,gb.out,by simpa using gd.out⟩⟩
 ·have HX:=hid hx;clear hx O
  gi_wp2
  go_end0;exact⟨⟨_,rfl⟩,.inr ⟨q,trivial,HX.out⟩⟩
theorem CD(k:Nat)(v:Value)(d:Int)(n:Nd)(w:World)(D:aF w v n):
  CallsIn Fence.wide k prog 104 #[v,d] w fun e w'=>e=.returned (.func (.func 164) #[] #[w,.pointer (some ⟨w.heap.size+1,0,none⟩)])/\w'=(w.alloc (.cells v.cells 24)).alloc (.cells #[d] 3):=by
 obtain⟨A,cp,rfl,I⟩:=D.toC;clear D I;refine callsIn_of_wp func104 rfl trivial ?_ rfl;simp only[ntmps104,qW,gO,qd,Nat.reduceAdd,Nat.reduceSub,qB,qC,qX,qH,qR,jJ]
 gi_wp2
 go_ret;exact⟨rfl,rfl⟩
end
end Go.Proofs.YteialcjaiocjdaaGreatDoor
