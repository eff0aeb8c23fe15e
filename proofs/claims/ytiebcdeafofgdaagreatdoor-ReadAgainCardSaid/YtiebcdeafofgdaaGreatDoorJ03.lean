/-
  Parts of the proof: Rtyp Rft Rsig Rty2 Rterm Rkit2 Smem Runion. By an AI agent.
-/
import Derived.Test.YtiebcdeafofgdaaGreatDoorJ02
import Derived.Deep.RegionHeld2
import Derived.Deep.RegionLaw
set_option maxRecDepth 100000
set_option maxHeartbeats 8000000
namespace Go.Proofs.YtiebcdeafofgdaaGreatDoor
section
open Go.RowKit Go.Lib Go.Proofs
attribute [local go_sem ↓] Go.wp_at_zero Go.wp_at_succ
attribute [local go_sem] aS aT aU bu bv bw bz
theorem gF:type_of% @beq_eq_false_iff_ne:=@beq_eq_false_iff_ne
theorem gZ:type_of% @Go.wp_region_held_drew:=@Go.wp_region_held_drew
theorem kO:type_of% @List.flatMap_append:=@List.flatMap_append
theorem qP:type_of% @List.cons.injEq:=@List.cons.injEq
theorem qX:type_of% @Go.World.ownsRow.alloc:=@Go.World.ownsRow.alloc
theorem qZ:type_of% @Go.World.ownsRow.lt:=@Go.World.ownsRow.lt
theorem FX(E:co)(F:fJ)(hF:oy E F)(B:Nat)(w0:World)(hB:au w0 B 52 #[E.R])(gg:B≠E.R):
  fP E 217 #[B] (lB F) w0:=by
 intro w s hw h hno;generalize hres:lB F E.c s=res at *;have D:=hid hres;have gk:=hid hno;have O:=hB.grown hw (fun e=>gg (by injection e));have b0:=O.cell 0;have gm:=O.lt;have ga:=h.lt;simp at b0;clear hres hno hB hw;(go_enter Tryz.func217,Tryz.ntmps217);(go_wp2_with fail);refine(bL E s _ (h.alloc _)).mono ?_;unfold it;rintro e w1⟨rfl,M⟩;have I:=((cU.refl h).alloc _).step M;have ge:=(au.new w 24 bD).below M (by simp);have b1:=((O.alloc _).below M (by simp;omega)).cell 0;simp at b1;clear M;(go_wp2_with fail);cases N:F.typ E.c s with
 |out=>exact absurd D.out.symm (by rw[lB,N];exact gk.out)
 |fail p=>refine(hF.typ w1 s I.rd (by rw[N];exact nofun)).mono ?_;rw[N];rintro e w2⟨rfl,gj⟩;unfold al;exact⟨rfl,ah (by rw[<-D.out,lB,N];rfl) I.moved.gr gj⟩
 |ok n s1=>have HF:Hid (res=.ok (.mk 8 ⟨#[]⟩ [n] (av E.c s)) s1):=hid (by rw[<-D.out,lB,N];rfl);refine(hF.typ w1 s I.rd (by rw[N];exact nofun)).mono ?_;rw[N];rintro e w2⟨⟨v,rfl,hv⟩,U⟩;obtain⟨A,cp,rfl,hC⟩:=hv.toC;have gd:=ge.grown U.gr;have gl:=ge.lt;have gi:=gd.lt;clear N D;(go_wp2_with fail);refine(aN _ _ _ _ _ ⟨_,_,_,rfl⟩).mono ?_;rintro e w3⟨rfl,J⟩;have hV:=aq.make 1 rfl (an.one hC) 8 ⟨#[]⟩ (av E.c s) J;have gb:=(gd.alloc _).below J (by simp;omega);have gh:=((I.moved.trans U).alloc _).step J;obtain⟨d0,d1,d2,d3,e0,e1,e2,e3⟩:=ag gb;clear J;(go_wp2_with fail);refine aB HF.out hV gh gb (d5 _) ga ?_ rfl (by rfl) rfl;rintro b(⟨hb,_⟩|rfl)<;>constructor<;>omega
theorem CR(E:co)(F:fJ)(hF:oy E F)(B:Nat)(w0:World)(hB:au w0 B 52 #[E.R])(gb:B≠E.R):
  fP E 130 #[B] (eG F) w0:=by
 intro w s hw h hno;generalize hres:eG F E.c s=res at *;have D:=hid hres;have gs:=hid hno;have ga:=hB.grown hw (fun e=>gb (by injection e));have b0:=ga.cell 0;have gu:=ga.lt;have ge:=h.lt;simp at b0;clear hres hno hB hw;(go_enter Tryz.func130,Tryz.ntmps130);(go_wp2_with fail);refine(bL E s _ (h.alloc _)).mono ?_;unfold it;rintro e w1⟨rfl,N⟩;have J:=((cU.refl h).alloc _).step N;have U:=(au.new w 24 bD).below N (by simp);have gj:=(ga.alloc _).below N (by simp;omega);have b1:=gj.cell 0;simp at b1;clear N;(go_wp2_with fail);by_cases hK:(ar E.c s.at_).kind=1
 ·have HK:=hid hK;refine(lE E s w1 J.rd hK).mono ?_;rintro e w2⟨rfl,I⟩;have gi:=U.grown I.gr;have b2:=(gj.grown I.gr (fun e=>gb (by injection e))).cell 0;simp at b2;have gn:=U.lt;clear hK;(go_wp2_with fail);cases O:F.typ E.c (adv s)with
  |out=>exact absurd D.out.symm (by rw[eG,cG,gE HK.out,bH.bind_ok,O];exact gs.out)
  |fail p=>refine(hF.typ w2 (adv s) I.rd (by rw[O];exact nofun)).mono ?_;rw[O];rintro e w3⟨rfl,gp⟩;unfold al;exact⟨rfl,ah (by rw[<-D.out,eG,cG,gE HK.out,bH.bind_ok,O];rfl) (J.moved.trans I).gr gp⟩
  |ok n s1=>have HF:Hid (res=.ok (.mk 8 (ar E.c s.at_).text [n] (av E.c s)) s1):=hid (by rw[<-D.out,eG,cG,gE HK.out,bH.bind_ok,O];rfl);refine(hF.typ w2 (adv s) I.rd (by rw[O];exact nofun)).mono ?_;rw[O];rintro e w3⟨⟨v,rfl,hv⟩,gd⟩;obtain⟨A,cp,rfl,hC⟩:=hv.toC;have gh:=gi.grown gd.gr;have gt:=U.lt;have gm:=gi.lt;have gl:=gh.lt;have gv:=I.gr.size;clear O D HK;(go_wp2_with fail);refine(aN _ _ _ _ _ ⟨_,_,_,rfl⟩).mono ?_;rintro e w4⟨rfl,M⟩;have hV:=aq.make 1 rfl (an.one hC) 8 (ar E.c s.at_).text (av E.c s) M;have gg:=(gh.alloc _).below M (by simp;omega);have gk:=((J.moved.trans (I.trans gd)).alloc _).step M;obtain⟨d0,d1,d2,d3,e0,e1,e2,e3⟩:=ag gg;clear M;(go_wp2_with fail);refine aB HF.out hV gk gg (d5 _) ge ?_ rfl (by rfl) rfl;rintro b(⟨hb,_⟩|rfl)<;>constructor<;>omega
 ·refine(mQ E s w1 J.rd hK).mono ?_;rintro e w2⟨rfl,gq⟩;unfold al;exact⟨rfl,ah (by rw[<-D.out,eG,cG,gA hK];rfl) J.moved.gr (ak _ gq)⟩
theorem wI(E:co)(F:fJ)(gg:eF E (dP F) 129)(B:Nat)(w0:World)(hB:au w0 B 52 #[E.R])(gb:B≠E.R):
  fP E 128 #[B] (dt F) w0:=by
 intro w s hw h hno;generalize hres:dt F E.c s=res at *;have D:=hid hres;have gt:=hid hno;have ga:=hB.grown hw (fun e=>gb (by injection e));have b0:=ga.cell 0;have gv:=ga.lt;have ge:=h.lt;simp at b0;clear hres hno hB hw;(go_enter Tryz.func128,Tryz.ntmps128);(go_wp2_with fail);refine(bL E s _ (h.alloc _)).mono ?_;unfold it;rintro e w1⟨rfl,N⟩;have J:=((cU.refl h).alloc _).step N;have U:=(au.new w 24 bD).below N (by simp);have gk:=(ga.alloc _).below N (by simp;omega);have b1:=gk.cell 0;simp at b1;clear N;(go_wp2_with fail);by_cases hK:(ar E.c s.at_).kind=1
 ·have HK:=hid hK;refine(lE E s w1 J.rd hK).mono ?_;rintro e w2⟨rfl,I⟩;have gj:=U.grown I.gr;have b2:=(gk.grown I.gr (fun e=>gb (by injection e))).cell 0;simp at b2;have gp:=U.lt;clear hK;(go_wp2_with fail);cases O:dP F E.c (adv s)with
  |out=>exact absurd D.out.symm (by rw[dt,cG,gE HK.out,bH.bind_ok,O];exact gt.out)
  |fail p=>refine(gg w2 (adv s) I.rd (by rw[O];exact nofun)).mono ?_;rw[O];rintro e w3⟨rfl,gq⟩;unfold al;exact⟨rfl,ah (by rw[<-D.out,dt,cG,gE HK.out,bH.bind_ok,O];rfl) (J.moved.trans I).gr gq⟩
  |ok n s1=>have HF:Hid (res=.ok (.mk 7 (ar E.c s.at_).text [n] (av E.c s)) s1):=hid (by rw[<-D.out,dt,cG,gE HK.out,bH.bind_ok,O];rfl);refine(gg w2 (adv s) I.rd (by rw[O];exact nofun)).mono ?_;rw[O];rintro e w3⟨⟨v,rfl,hv⟩,gd⟩;obtain⟨A,cp,rfl,hC⟩:=hv.toC;have gi:=gj.grown gd.gr;have gu:=U.lt;have gn:=gj.lt;have gm:=gi.lt;have gw:=I.gr.size;clear O D HK;(go_wp2_with fail);refine(aN _ _ _ _ _ ⟨_,_,_,rfl⟩).mono ?_;rintro e w4⟨rfl,M⟩;have hV:=aq.make 1 rfl (an.one hC) 7 (ar E.c s.at_).text (av E.c s) M;have gh:=(gi.alloc _).below M (by simp;omega);have gl:=((J.moved.trans (I.trans gd)).alloc _).step M;obtain⟨d0,d1,d2,d3,e0,e1,e2,e3⟩:=ag gh;clear M;(go_wp2_with fail);refine aB HF.out hV gl gh (d5 _) ge ?_ rfl (by rfl) rfl;rintro b(⟨hb,_⟩|rfl)<;>constructor<;>omega
 ·refine(mQ E s w1 J.rd hK).mono ?_;rintro e w2⟨rfl,gs⟩;unfold al;exact⟨rfl,ah (by rw[<-D.out,dt,cG,gA hK];rfl) J.moved.gr (ak _ gs)⟩
theorem oS(E:co)(F:fJ)(hF:oy E F):eF E (dg F) 132:=by
 intro w s h hno;generalize hres:dg F E.c s=res at *;have D:=hid hres;have gd:=hid hno;have M:=h.lt;clear hres hno;(go_enter Tryz.func132,Tryz.ntmps132);(go_wp2_with fail);refine(GP E s _ (h.alloc _)).mono ?_;rintro e w1⟨rfl,O⟩;have I:=((cU.refl h).alloc _).step O.bel;have J:=(au.new w 24 bD).below O.bel (by simp);have ge:=J.lt;clear O;cases hT:pD E.c s with
 |false=>have HF:Hid (res=.ok bU s):=hid (by rw[<-D.out,dg,hT];rfl);obtain⟨d0,d1,d2,d3,e0,e1,e2,e3⟩:=ag J;(go_wp2_with fail);refine aB (X:=fun _=>False) HF.out aq.zero I.moved J (d5 _) M ?_ rfl (by rfl) rfl;exact fun _ h=>h.elim
 |true=>
  (go_wp2_with fail);cases N:F.typ E.c s with
  |out=>exact absurd D.out.symm (by rw[dg,hT,gE rfl,N];exact gd.out)
  |fail p=>refine(hF.typ w1 s I.rd (by rw[N];exact nofun)).mono ?_;rw[N];rintro e w2⟨rfl,gb⟩;unfold al;exact⟨rfl,ah (by rw[<-D.out,dg,hT,gE rfl,N]) I.moved.gr gb⟩
  |ok n s1=>have HF:Hid (res=.ok n s1):=hid (by rw[<-D.out,dg,hT,gE rfl,N]);refine(hF.typ w1 s I.rd (by rw[N];exact nofun)).mono ?_;rw[N];rintro e w2⟨⟨v,rfl,hv⟩,U⟩;obtain⟨A,cp,rfl,hC⟩:=hv.toC;have ga:=J.grown U.gr;obtain⟨d0,d1,d2,d3,e0,e1,e2,e3⟩:=ag ga;clear N D;(go_wp2_with fail);refine aB HF.out hv (I.moved.trans U) ga (d5 _) M ?_ rfl (by rfl) rfl;intro b hb;constructor<;>omega
theorem CS(a:Array Value)(w:World):(callFunc 217 a).run Tryz.prog w=.ok (.enter 217 a) w:=by kernel_rfl
theorem oT(E:co)(F:fJ)(hF:oy E F)(p:Int)(w:World)(s:St)(h:aR E w s)(g4:dD F p E.c s≠.out):
  Calls Tryz.prog 179 #[E.R,.int .i64 p] w (mK E w (dD F p E.c s)):=by
 generalize hres:dD F p E.c s=res at *;have gd:=hid hres;have hm:=hid g4;have h4:=h.lt;clear hres g4;(go_enter Tryz.func179,Tryz.ntmps179);(go_wp2_with fail);have hl:au ((w.alloc (.cells #[E.R] 52)).alloc (.cells bD 24)) w.heap.size 52 #[E.R]:=(au.new w _ _).alloc _;(have hh:au ((w.alloc (.cells #[E.R] 52)).alloc (.cells bD 24)) (w.heap.size+1) 24 bD:=by have:=au.new (w.alloc (.cells #[E.R] 52)) 24 bD;simpa using this);refine(bL E s _ ((h.alloc _).alloc _)).mono ?_;unfold it;rintro e w1⟨rfl,gj⟩;have gg:=(((cU.refl h).alloc _).alloc _).step gj;have gw:=hh.below gj (by simp);have gn:=hl.below gj (by simp;omega);have b1:=gn.cell 0;simp at b1;clear gj hh hl;(go_wp2_with fail);cases hA:aP E.c s ⟨#[40]⟩with
 |false=>refine(eJ E s _ w1 gg.rd hA).mono ?_;rintro e w2⟨rfl,hz⟩;unfold al;exact⟨rfl,ah (by rw[<-gd.out,dD,need];simp[hA]) gg.moved.gr (ak _ hz)⟩
 |true=>
  have gp:=hid (show((aX (lB F) ⟨#[41]⟩ F.g [] E.c (adv s)).bind fun l s2=>(dg F E.c s2).bind fun r s3=>.ok (.mk 12 ⟨#[]⟩ [.mk 6 ⟨#[]⟩ l (av E.c s),r] p) s3)=res by rw[<-gd.out,dD,need];simp only[hA,kJ,bH.bind_ok]);refine(dA E s _ w1 gg.rd hA).mono ?_;rintro e w2⟨rfl,ga⟩;have hg:=gw.grown ga.gr;have hj:=gn.grown ga.gr;have gq:=gg.moved.trans ga;have h7:=gn.lt;have h6:=gw.lt;have je:=ga.gr.size;clear gd hA ga gw gn b1;(go_wp2_with fail);refine(aN _ _ _ _ _ ⟨_,_,_,rfl⟩).mono ?_;rintro e D⟨rfl,gb⟩;have g6:=gq.step gb;have gv:=hg.below gb (by omega);have gm:=hj.below gb (by omega);have b3:=gm.cell 0;simp at b3;have jd:=gb.size;have hu:=gv.lt;have gt:=gm.lt;have hq:=qe gt;clear gb hg hj gq;(go_wp2_with fail);have U:=g6.alloc (.cells #[.int .i64 6,.string ⟨#[]⟩,.slice none 0 0,.int .i64 (av E.c s)] 24);have gl:=gm.alloc (.cells #[.int .i64 6,.string ⟨#[]⟩,.slice none 0 0,.int .i64 (av E.c s)] 24);have hf:=gv.alloc (.cells #[.int .i64 6,.string ⟨#[]⟩,.slice none 0 0,.int .i64 (av E.c s)] 24);have g8:=au.new D 24 #[.int .i64 6,.string ⟨#[]⟩,.slice none 0 0,.int .i64 (av E.c s)];(have jc:(D.alloc (.cells #[.int .i64 6,.string ⟨#[]⟩,.slice none 0 0,.int .i64 (av E.c s)] 24)).heap.size=D.heap.size+1:=by simp);(have N:w.heap.size≠E.R:=by omega);clear g6 gm gv;cases hR:aX (lB F) ⟨#[41]⟩ F.g [] E.c (adv s)with
  |out=>exact absurd gp.out.symm (by rw[hR];exact hm.out)
  |fail q=>refine(lF E 217 #[] #[w] (lB F) ⟨#[41]⟩ F.g (adv s) _ U.rd CS (FX E F hF w.heap.size _ gl N) (by rw[hR];exact nofun) hF.g).mono ?_;rw[hR];rintro e w5⟨rfl,hy⟩;unfold al;exact⟨rfl,ah (by rw[<-gp.out,hR];rfl) U.gr hy⟩
  |ok l s2=>
   have ge:=hid (show(dg F E.c s2).bind (fun r s3=>.ok (.mk 12 ⟨#[]⟩ [.mk 6 ⟨#[]⟩ l (av E.c s),r] p) s3)=res by rw[<-gp.out,hR];rfl);refine(lF E 217 #[] #[w] (lB F) ⟨#[41]⟩ F.g (adv s) _ U.rd CS (FX E F hF w.heap.size _ gl N) (by rw[hR];exact nofun) hF.g).mono ?_;rw[hR];rintro e w5⟨⟨v,rfl,hv⟩,O⟩;obtain⟨A,cp,xs,rfl,gz,gy,gx⟩:=hv;have gk:=g8.grown O.gr;have he:=hf.grown O.gr;have hi:=gl.grown O.gr;obtain⟨l0,l1,l2,l3,f0,f1,f2,f3⟩:=ag gk;have h5:=gk.lt;clear hR gp g8 hf gl;(go_wp2_with fail);(have g7:au (w5.setCell ⟨D,2,none⟩ (.slice A l.length cp)) D.heap.size 24 #[.int .i64 6,.string ⟨#[]⟩,.slice A l.length cp,.int .i64 (av E.c s)]:=by simpa using gk.set_ 2 (.slice A l.length cp));have ha:=he.far (p:=⟨D,2,none⟩) (by show w.heap.size+1≠D.heap.size;omega) (.slice A l.length cp);have h1:=hi.far (p:=⟨D,2,none⟩) (by show w.heap.size≠D.heap.size;omega) (.slice A l.length cp);have gh:=(U.trans O).own (p:=⟨D,2,none⟩) (by show w.heap.size<=D.heap.size;omega) (by show E.R<D.heap.size;omega) (.slice A l.length cp);(have ho:dG (fun b=>D.heap.size+1<=b) (w5.setCell ⟨D,2,none⟩ (.slice A l.length cp)) (.slice A l.length cp) l:=by have hk:am (fun b=>D.heap.size+1<=b) w5 (w5.setCell ⟨D,2,none⟩ (.slice A l.length cp)):=(am.refl _ _).setCell (fun h=>by simp at h;omega) _;have hp:dG (fun b=>D.heap.size+1<=b) w5 (.slice A l.length cp) l:=⟨A,cp,xs,rfl,gz,by simpa using gy,by simpa using gx⟩;exact hp.kept hk);(have ja:w5.heap.size<=(w5.setCell ⟨D,2,none⟩ (.slice A l.length cp)).heap.size:=by simp);clear gk he hi O U l0 l1 l2 l3 f0 f1 f2 f3 gz gy gx;generalize w5.setCell ⟨D,2,none⟩ (.slice A l.length cp)=w6 at *;obtain⟨l0,l1,l2,l3,f0,f1,f2,f3⟩:=ag g7;have b6:=h1.cell 0;simp at b6;have gs:=g7.lt;have h3:=qe gs;(have I:E.R≠D.heap.size:=by omega);cases hP:dg F E.c s2 with
   |out=>exact absurd ge.out.symm (by rw[hP];exact hm.out)
   |fail q=>have HC:=hid (fun W(hr:aR E W s2)=>oS E F hF W s2 hr (by rw[hP];exact nofun));have HF:Hid (res=.fail q):=hid (by rw[<-ge.out,hP];rfl);rw[hP]at HC;clear ge hP;have s6:nH ⟨D,0,none⟩ ⟨D,1,none⟩ ⟨D,2,none⟩ ⟨D,3,none⟩ ⟨w,0,none⟩ (.int .i64 6) (.string ⟨#[]⟩) (.slice A l.length cp) (.int .i64 (av E.c s)) (.pointer (some ⟨E.R,0,none⟩)) w6:=⟨l0,l1,l2,l3,b6⟩;let SS:World->Prop:=fun w'=>w'.cell? ⟨D,0,none⟩=some (.int .i64 6)/\w'.cell? ⟨D,1,none⟩=some (.string ⟨#[]⟩)/\w'.cell? ⟨D,2,none⟩=some (.slice A l.length cp)/\w'.cell? ⟨D,3,none⟩=some (.int .i64 (av E.c s))/\w'.cell? ⟨w,0,none⟩=some (.pointer (some ⟨E.R,0,none⟩));have h2:SS w6.drew:=s6.drew;(refine gZ (S:=SS) (by kernel_rfl) h2 ?_;intro gu;refine dL 0 gu ?_;refine dL 1 gu ?_;refine dL 2 gu ?_;refine tM 3 fun K hK=>?_;go_simp);refine(HC.out _ (gh.drew).rd).mono ?_;rintro e w7⟨rfl,hw⟩;unfold al;exact⟨rfl,ah HF.out gh.drew.gr hw⟩
   |ok n s3=>
    have HC:=hid (fun W(hr:aR E W s2)=>oS E F hF W s2 hr (by rw[hP];exact nofun));have HF:Hid (res=.ok (.mk 12 ⟨#[]⟩ [.mk 6 ⟨#[]⟩ l (av E.c s),n] p) s3):=hid (by rw[<-ge.out,hP];rfl);rw[hP]at HC;clear ge hP;(have J:D.heap.size≠w.heap.size+1:=by omega);(have g5:w.heap.size≠w.heap.size+1:=by omega);have s6:nH ⟨D,0,none⟩ ⟨D,1,none⟩ ⟨D,2,none⟩ ⟨D,3,none⟩ ⟨w,0,none⟩ (.int .i64 6) (.string ⟨#[]⟩) (.slice A l.length cp) (.int .i64 (av E.c s)) (.pointer (some ⟨E.R,0,none⟩)) w6:=⟨l0,l1,l2,l3,b6⟩;go_region_held3 (fun w'=>w'.cell? ⟨D,0,none⟩=some (.int .i64 6)/\w'.cell? ⟨D,1,none⟩=some (.string ⟨#[]⟩)/\w'.cell? ⟨D,2,none⟩=some (.slice A l.length cp)/\w'.cell? ⟨D,3,none⟩=some (.int .i64 (av E.c s))/\w'.cell? ⟨w,0,none⟩=some (.pointer (some ⟨E.R,0,none⟩)))
     (first|with_reducible exact s9 _ _ _ _|with_reducible exact s8|with_reducible exact s7.alloc _|with_reducible exact s7|with_reducible exact s6.drew)
     (first
      |(go_at_call 132;refine(HC.out _ (gh.drew).rd).mono ?_;rintro e w7⟨⟨v,rfl,hv⟩,M⟩;obtain⟨An,cn,rfl,hC⟩:=hv.toC;have ht:=gh.drew.trans M;have s7:=s6.drew.grown M.gr I.symm I.symm I.symm I.symm N)
      |(go_at_call 64;refine(aN _ _ _ _ _ ⟨_,_,_,rfl⟩).mono ?_;rintro e w8⟨rfl,gi⟩;have s8:=(s7.alloc _).below gi;have s9:=s8.put (w.heap.size+1) J J J J g5;have g9:=((ha.drew.grown M.gr).alloc _).below gi (by have:=(ha.drew.grown M.gr).lt;simp;omega);obtain⟨g0,g1,g2,g3,k0,k1,k2,k3⟩:=ag g9))
    (all_goals go_wp2_with fail);have jb:=M.gr.size;have h8:w6.drew.heap.size=w6.heap.size:=rfl;have hn:=(ho.kept ((am.refl _ _).drew.trans (am.of_grown M.gr (fun g e hX=>by injection e with e;subst e;omega)))).mono (Y:=fun b=>D.heap.size+1<=b) (fun b hb _=>hb);obtain⟨AL,cL,eL,h0⟩:=(aq.of_slice hn 6 ⟨#[]⟩ (av E.c s)).toC;simp only[Nd.kids_mk,Nd.kind_mk,Nd.text_mk,Nd.pos_mk,Value.agg.injEq,Array.mk.injEq,qP,Value.slice.injEq,true_and,and_true]at eL;obtain⟨rfl,rfl⟩:=eL;have hV:=aq.make 2 rfl (an.cons h0 (an.one (hC.mono (Y:=fun b=>D.heap.size+1<=b) fun b hb _=>by omega))) 12 ⟨#[]⟩ p gi;refine aB HF.out hV ((ht.alloc _).step gi) g9 (by omega) (by omega) ?_ rfl (by rfl) rfl;rintro b(⟨hb,_⟩|rfl)<;>constructor<;>omega
theorem AM(a:Array Value)(w:World):(callFunc 130 a).run Tryz.prog w=.ok (.enter 130 a) w:=by kernel_rfl
theorem mg(E:co)(F:fJ)(hF:oy E F)(p:Int)(w:World)(s:St)(h:aR E w s)(g4:oR F p E.c s≠.out):
  Calls Tryz.prog 87 #[E.R,.int .i64 p] w (mK E w (oR F p E.c s)):=by
 generalize hres:oR F p E.c s=res at *;have gd:=hid hres;have hm:=hid g4;have h4:=h.lt;clear hres g4;(go_enter Tryz.func87,Tryz.ntmps87);(go_wp2_with fail);have hl:au ((w.alloc (.cells #[E.R] 52)).alloc (.cells bD 24)) w.heap.size 52 #[E.R]:=(au.new w _ _).alloc _;(have hh:au ((w.alloc (.cells #[E.R] 52)).alloc (.cells bD 24)) (w.heap.size+1) 24 bD:=by have:=au.new (w.alloc (.cells #[E.R] 52)) 24 bD;simpa using this);refine(bL E s _ ((h.alloc _).alloc _)).mono ?_;unfold it;rintro e w1⟨rfl,gj⟩;have gg:=(((cU.refl h).alloc _).alloc _).step gj;have gw:=hh.below gj (by simp);have gn:=hl.below gj (by simp;omega);have b1:=gn.cell 0;simp at b1;clear gj hh hl;(go_wp2_with fail);cases hA:aP E.c s ⟨#[40]⟩with
 |false=>refine(eJ E s _ w1 gg.rd hA).mono ?_;rintro e w2⟨rfl,hz⟩;unfold al;exact⟨rfl,ah (by rw[<-gd.out,oR,need];simp[hA]) gg.moved.gr (ak _ hz)⟩
 |true=>
  have gp:=hid (show((aX (eG F) ⟨#[41]⟩ F.g [] E.c (adv s)).bind fun l s2=>(dg F E.c s2).bind fun r s3=>.ok (.mk 12 ⟨#[]⟩ [.mk 6 ⟨#[]⟩ l (av E.c s),r] p) s3)=res by rw[<-gd.out,oR,need];simp only[hA,kJ,bH.bind_ok]);refine(dA E s _ w1 gg.rd hA).mono ?_;rintro e w2⟨rfl,ga⟩;have hg:=gw.grown ga.gr;have hj:=gn.grown ga.gr;have gq:=gg.moved.trans ga;have h7:=gn.lt;have h6:=gw.lt;have je:=ga.gr.size;clear gd hA ga gw gn b1;(go_wp2_with fail);refine(aN _ _ _ _ _ ⟨_,_,_,rfl⟩).mono ?_;rintro e D⟨rfl,gb⟩;have g6:=gq.step gb;have gv:=hg.below gb (by omega);have gm:=hj.below gb (by omega);have b3:=gm.cell 0;simp at b3;have jd:=gb.size;have hu:=gv.lt;have gt:=gm.lt;have hq:=qe gt;clear gb hg hj gq;(go_wp2_with fail);have U:=g6.alloc (.cells #[.int .i64 6,.string ⟨#[]⟩,.slice none 0 0,.int .i64 (av E.c s)] 24);have gl:=gm.alloc (.cells #[.int .i64 6,.string ⟨#[]⟩,.slice none 0 0,.int .i64 (av E.c s)] 24);have hf:=gv.alloc (.cells #[.int .i64 6,.string ⟨#[]⟩,.slice none 0 0,.int .i64 (av E.c s)] 24);have g8:=au.new D 24 #[.int .i64 6,.string ⟨#[]⟩,.slice none 0 0,.int .i64 (av E.c s)];(have jc:(D.alloc (.cells #[.int .i64 6,.string ⟨#[]⟩,.slice none 0 0,.int .i64 (av E.c s)] 24)).heap.size=D.heap.size+1:=by simp);(have N:w.heap.size≠E.R:=by omega);clear g6 gm gv;cases hR:aX (eG F) ⟨#[41]⟩ F.g [] E.c (adv s)with
  |out=>exact absurd gp.out.symm (by rw[hR];exact hm.out)
  |fail q=>refine(lF E 130 #[] #[w] (eG F) ⟨#[41]⟩ F.g (adv s) _ U.rd AM (CR E F hF w.heap.size _ gl N) (by rw[hR];exact nofun) hF.g).mono ?_;rw[hR];rintro e w5⟨rfl,hy⟩;unfold al;exact⟨rfl,ah (by rw[<-gp.out,hR];rfl) U.gr hy⟩
  |ok l s2=>
   have ge:=hid (show(dg F E.c s2).bind (fun r s3=>.ok (.mk 12 ⟨#[]⟩ [.mk 6 ⟨#[]⟩ l (av E.c s),r] p) s3)=res by rw[<-gp.out,hR];rfl);refine(lF E 130 #[] #[w] (eG F) ⟨#[41]⟩ F.g (adv s) _ U.rd AM (CR E F hF w.heap.size _ gl N) (by rw[hR];exact nofun) hF.g).mono ?_;rw[hR];rintro e w5⟨⟨v,rfl,hv⟩,O⟩;obtain⟨A,cp,xs,rfl,gz,gy,gx⟩:=hv;have gk:=g8.grown O.gr;have he:=hf.grown O.gr;have hi:=gl.grown O.gr;obtain⟨l0,l1,l2,l3,f0,f1,f2,f3⟩:=ag gk;have h5:=gk.lt;clear hR gp g8 hf gl;(go_wp2_with fail);(have g7:au (w5.setCell ⟨D,2,none⟩ (.slice A l.length cp)) D.heap.size 24 #[.int .i64 6,.string ⟨#[]⟩,.slice A l.length cp,.int .i64 (av E.c s)]:=by simpa using gk.set_ 2 (.slice A l.length cp));have ha:=he.far (p:=⟨D,2,none⟩) (by show w.heap.size+1≠D.heap.size;omega) (.slice A l.length cp);have h1:=hi.far (p:=⟨D,2,none⟩) (by show w.heap.size≠D.heap.size;omega) (.slice A l.length cp);have gh:=(U.trans O).own (p:=⟨D,2,none⟩) (by show w.heap.size<=D.heap.size;omega) (by show E.R<D.heap.size;omega) (.slice A l.length cp);(have ho:dG (fun b=>D.heap.size+1<=b) (w5.setCell ⟨D,2,none⟩ (.slice A l.length cp)) (.slice A l.length cp) l:=by have hk:am (fun b=>D.heap.size+1<=b) w5 (w5.setCell ⟨D,2,none⟩ (.slice A l.length cp)):=(am.refl _ _).setCell (fun h=>by simp at h;omega) _;have hp:dG (fun b=>D.heap.size+1<=b) w5 (.slice A l.length cp) l:=⟨A,cp,xs,rfl,gz,by simpa using gy,by simpa using gx⟩;exact hp.kept hk);(have ja:w5.heap.size<=(w5.setCell ⟨D,2,none⟩ (.slice A l.length cp)).heap.size:=by simp);clear gk he hi O U l0 l1 l2 l3 f0 f1 f2 f3 gz gy gx;generalize w5.setCell ⟨D,2,none⟩ (.slice A l.length cp)=w6 at *;obtain⟨l0,l1,l2,l3,f0,f1,f2,f3⟩:=ag g7;have b6:=h1.cell 0;simp at b6;have gs:=g7.lt;have h3:=qe gs;(have I:E.R≠D.heap.size:=by omega);cases hP:dg F E.c s2 with
   |out=>exact absurd ge.out.symm (by rw[hP];exact hm.out)
   |fail q=>have HC:=hid (fun W(hr:aR E W s2)=>oS E F hF W s2 hr (by rw[hP];exact nofun));have HF:Hid (res=.fail q):=hid (by rw[<-ge.out,hP];rfl);rw[hP]at HC;clear ge hP;have s6:nH ⟨D,0,none⟩ ⟨D,1,none⟩ ⟨D,2,none⟩ ⟨D,3,none⟩ ⟨w,0,none⟩ (.int .i64 6) (.string ⟨#[]⟩) (.slice A l.length cp) (.int .i64 (av E.c s)) (.pointer (some ⟨E.R,0,none⟩)) w6:=⟨l0,l1,l2,l3,b6⟩;let SS:World->Prop:=fun w'=>w'.cell? ⟨D,0,none⟩=some (.int .i64 6)/\w'.cell? ⟨D,1,none⟩=some (.string ⟨#[]⟩)/\w'.cell? ⟨D,2,none⟩=some (.slice A l.length cp)/\w'.cell? ⟨D,3,none⟩=some (.int .i64 (av E.c s))/\w'.cell? ⟨w,0,none⟩=some (.pointer (some ⟨E.R,0,none⟩));have h2:SS w6.drew:=s6.drew;(refine gZ (S:=SS) (by kernel_rfl) h2 ?_;intro gu;refine dL 0 gu ?_;refine dL 1 gu ?_;refine dL 2 gu ?_;refine tM 3 fun K hK=>?_;go_simp);refine(HC.out _ (gh.drew).rd).mono ?_;rintro e w7⟨rfl,hw⟩;unfold al;exact⟨rfl,ah HF.out gh.drew.gr hw⟩
   |ok n s3=>
    have HC:=hid (fun W(hr:aR E W s2)=>oS E F hF W s2 hr (by rw[hP];exact nofun));have HF:Hid (res=.ok (.mk 12 ⟨#[]⟩ [.mk 6 ⟨#[]⟩ l (av E.c s),n] p) s3):=hid (by rw[<-ge.out,hP];rfl);rw[hP]at HC;clear ge hP;(have J:D.heap.size≠w.heap.size+1:=by omega);(have g5:w.heap.size≠w.heap.size+1:=by omega);have s6:nH ⟨D,0,none⟩ ⟨D,1,none⟩ ⟨D,2,none⟩ ⟨D,3,none⟩ ⟨w,0,none⟩ (.int .i64 6) (.string ⟨#[]⟩) (.slice A l.length cp) (.int .i64 (av E.c s)) (.pointer (some ⟨E.R,0,none⟩)) w6:=⟨l0,l1,l2,l3,b6⟩;go_region_held3 (fun w'=>w'.cell? ⟨D,0,none⟩=some (.int .i64 6)/\w'.cell? ⟨D,1,none⟩=some (.string ⟨#[]⟩)/\w'.cell? ⟨D,2,none⟩=some (.slice A l.length cp)/\w'.cell? ⟨D,3,none⟩=some (.int .i64 (av E.c s))/\w'.cell? ⟨w,0,none⟩=some (.pointer (some ⟨E.R,0,none⟩)))
     (first|with_reducible exact s9 _ _ _ _|with_reducible exact s8|with_reducible exact s7.alloc _|with_reducible exact s7|with_reducible exact s6.drew)
     (first
      |(go_at_call 132;refine(HC.out _ (gh.drew).rd).mono ?_;rintro e w7⟨⟨v,rfl,hv⟩,M⟩;obtain⟨An,cn,rfl,hC⟩:=hv.toC;have ht:=gh.drew.trans M;have s7:=s6.drew.grown M.gr I.symm I.symm I.symm I.symm N)
      |(go_at_call 64;refine(aN _ _ _ _ _ ⟨_,_,_,rfl⟩).mono ?_;rintro e w8⟨rfl,gi⟩;have s8:=(s7.alloc _).below gi;have s9:=s8.put (w.heap.size+1) J J J J g5;have g9:=((ha.drew.grown M.gr).alloc _).below gi (by have:=(ha.drew.grown M.gr).lt;simp;omega);obtain⟨g0,g1,g2,g3,k0,k1,k2,k3⟩:=ag g9))
    (all_goals go_wp2_with fail);have jb:=M.gr.size;have h8:w6.drew.heap.size=w6.heap.size:=rfl;have hn:=(ho.kept ((am.refl _ _).drew.trans (am.of_grown M.gr (fun g e hX=>by injection e with e;subst e;omega)))).mono (Y:=fun b=>D.heap.size+1<=b) (fun b hb _=>hb);obtain⟨AL,cL,eL,h0⟩:=(aq.of_slice hn 6 ⟨#[]⟩ (av E.c s)).toC;simp only[Nd.kids_mk,Nd.kind_mk,Nd.text_mk,Nd.pos_mk,Value.agg.injEq,Array.mk.injEq,qP,Value.slice.injEq,true_and,and_true]at eL;obtain⟨rfl,rfl⟩:=eL;have hV:=aq.make 2 rfl (an.cons h0 (an.one (hC.mono (Y:=fun b=>D.heap.size+1<=b) fun b hb _=>by omega))) 12 ⟨#[]⟩ p gi;refine aB HF.out hV ((ht.alloc _).step gi) g9 (by omega) (by omega) ?_ rfl (by rfl) rfl;rintro b(⟨hb,_⟩|rfl)<;>constructor<;>omega
theorem AN(a:Array Value)(w:World):(callFunc 131 a).run Tryz.prog w=.ok (.enter 131 a) w:=by kernel_rfl
theorem OP(E:co)(F:fJ)(hF:oy E F):eF E (wG F) 131:=by
 intro w s h hno;generalize gb:wG F E.c s=res at *;have M:=hid gb;have gu:=hid hno;have gd:=h.lt;have h2:=h.most;clear gb hno;(go_enter Tryz.func131,Tryz.ntmps131);(go_wp2_with fail);refine(bL E s _ (h.alloc _)).mono ?_;unfold it;rintro e w1⟨rfl,hj⟩;have gw:=((cU.refl h).alloc _).step hj;have g6:=(au.new w 24 bD).below hj (by simp);have gz:=g6.lt;clear hj;(go_wp2_with fail);cases hA:aP E.c s ⟨#[40]⟩with
 |true=>
  have HE:=hid (show(F.typ E.c (adv s)).bind (fun t s1=>(need ⟨#[41]⟩ E.c s1).bind fun _ s2=>.ok t s2)=res by rw[<-M.out,wG,gE hA]);refine(bi E s _ w1 gw.rd hA).mono ?_;rintro e w2⟨rfl,gp⟩;have gt:=g6.grown gp.gr;have hm:=gw.moved.trans gp;have jj:=gp.gr.size;clear M hA;(go_wp2_with fail);cases J:F.typ E.c (adv s)with
  |out=>exact absurd HE.out.symm (by rw[J];exact gu.out)
  |fail p=>refine(hF.typ w2 (adv s) gp.rd (by rw[J];exact nofun)).mono ?_;rw[J];rintro e w3⟨rfl,h7⟩;unfold al;exact⟨rfl,ah (by rw[<-HE.out,J];rfl) hm.gr h7⟩
  |ok n s1=>
   have I:=hid (show(need ⟨#[41]⟩ E.c s1).bind (fun _ s2=>.ok n s2)=res by rw[<-HE.out,J];rfl);refine(hF.typ w2 (adv s) gp.rd (by rw[J];exact nofun)).mono ?_;rw[J];rintro e w3⟨⟨v,rfl,hv⟩,O⟩;obtain⟨A,cp,rfl,hC⟩:=hv.toC;have gm:=gt.grown O.gr;have U:=(hm.trans O).alloc (.cells (nv n A cp) 24);have h1:=O.gr.size;have h4:=O.rd.lt;clear J HE O gp hm;(go_wp2_with fail);cases hD:aP E.c s1 ⟨#[41]⟩with
   |false=>refine(eJ E s1 _ _ U.rd hD).mono ?_;rintro e w4⟨rfl,hi⟩;unfold al;exact⟨rfl,ah (by rw[<-I.out,need];simp[hD]) U.gr (ak _ hi)⟩
   |true=>have HF:=hid (show res=.ok n (adv s1)by rw[<-I.out,need];simp[hD]);refine(dA E s1 _ _ U.rd hD).mono ?_;rintro e w4⟨rfl,D⟩;have ja:=(au.new w3 24 (nv n A cp)).grown D.gr;have ga:=(gm.alloc _).grown D.gr;obtain⟨x0,x1,x2,x3,_,_,_,_⟩:=ag ja;obtain⟨d0,d1,d2,d3,e0,e1,e2,e3⟩:=ag ga;clear hD I;(go_wp2_with fail);refine aB HF.out (hv.kept (((am.refl _ _).alloc _).trans (am.of_grown D.gr (fun g e hX=>by injection e with e;subst e;omega)))) (U.trans D) ga (d5 _) gd ?_ rfl (by rfl) rfl;intro b hb;constructor<;>omega
 |false=>
  refine(bA E s _ w1 gw.rd hA).mono ?_;rintro e w2⟨rfl,gi⟩;have gt:=g6.below gi.bel gz;replace gi:=gw.step gi.bel;have gy:=gt.lt;clear gw g6 gz;(go_wp2_with fail);cases hB:aP E.c s ⟨#[91]⟩with
  |true=>
   have HE:=hid (show(need ⟨#[93]⟩ E.c (adv s)).bind (fun _ s1=>(F.typ E.c s1).bind fun t s2=>.ok (.mk 11 ⟨#[]⟩ [t] (av E.c s)) s2)=res by rw[<-M.out,wG];simp only[hA,hB,gT,jY,kJ]);refine(bi E s _ w2 gi.rd hB).mono ?_;rintro e w3⟨rfl,O⟩;have gm:=gt.grown O.gr;have U:=gi.moved.trans O;have h1:=O.gr.size;clear M hA hB;(go_wp2_with fail);cases hD:aP E.c (adv s) ⟨#[93]⟩with
   |false=>refine(eJ E (adv s) _ _ U.rd hD).mono ?_;rintro e w4⟨rfl,hi⟩;unfold al;exact⟨rfl,ah (by rw[<-HE.out,need];simp[hD]) U.gr (ak _ hi)⟩
   |true=>
    have I:=hid (show(F.typ E.c (adv (adv s))).bind (fun t s2=>.ok (.mk 11 ⟨#[]⟩ [t] (av E.c s)) s2)=res by rw[<-HE.out,need];simp only[hD,kJ,bH.bind_ok]);refine(dA E (adv s) _ _ U.rd hD).mono ?_;rintro e w4⟨rfl,D⟩;have ga:=gm.grown D.gr;have gs:=U.trans D;have h0:=D.gr.size;clear hD HE U;(go_wp2_with fail);cases J:F.typ E.c (adv (adv s))with
    |out=>exact absurd I.out.symm (by rw[J];exact gu.out)
    |fail p=>refine(hF.typ w4 _ D.rd (by rw[J];exact nofun)).mono ?_;rw[J];rintro e w5⟨rfl,hh⟩;unfold al;exact⟨rfl,ah (by rw[<-I.out,J];rfl) gs.gr hh⟩
    |ok n s2=>have HF:Hid (res=.ok (.mk 11 ⟨#[]⟩ [n] (av E.c s)) s2):=hid (by rw[<-I.out,J];rfl);refine(hF.typ w4 _ D.rd (by rw[J];exact nofun)).mono ?_;rw[J];rintro e w5⟨⟨v,rfl,hv⟩,N⟩;obtain⟨A,cp,rfl,hC⟩:=hv.toC;have gl:=ga.grown N.gr;have g2:=gs.trans N;have hy:=N.gr.size;have h5:=gl.lt;clear J I D O gs;(go_wp2_with fail);refine(aN _ _ _ _ _ ⟨_,_,_,rfl⟩).mono ?_;rintro e w6⟨rfl,ge⟩;have hV:=aq.make 1 rfl (an.one hC) 11 ⟨#[]⟩ (av E.c s) ge;have g5:=(gl.alloc _).below ge (by simp;omega);have hl:=(g2.alloc _).step ge;obtain⟨d0,d1,d2,d3,e0,e1,e2,e3⟩:=ag g5;clear ge;(go_wp2_with fail);refine aB HF.out hV hl g5 (d5 _) gd ?_ rfl (by rfl) rfl;rintro b(⟨hb,_⟩|rfl)<;>constructor<;>omega
  |false=>
   refine(bA E s _ w2 gi.rd hB).mono ?_;rintro e w3⟨rfl,gh⟩;have gm:=gt.below gh.bel gy;replace gh:=gi.step gh.bel;have gx:=gm.lt;clear gi gt gy;(go_wp2_with fail);cases hK:aP E.c s ⟨#[102,117,110,99]⟩with
   |true=>
    have HE:Hid (dD F (av E.c s) E.c (adv s)=res):=hid (by rw[<-M.out,wG];simp only[hA,hB,hK,gT,jY,kJ]);refine(bi E s _ w3 gh.rd hK).mono ?_;rintro e w4⟨rfl,D⟩;have ga:=gm.grown D.gr;have gs:=gh.moved.trans D;have h0:=D.gr.size;clear M hA hB hK;(go_wp2_with fail);refine(oT E F hF _ w4 (adv s) D.rd (by rw[show dD F (ar E.c s.at_).pos E.c (adv s)=res from HE.out];exact gu.out)).mono ?_;rw[show dD F (ar E.c s.at_).pos E.c (adv s)=res from HE.out];cases gb:res with
    |out=>exact absurd gb gu.out
    |fail p=>rintro e w5⟨rfl,hh⟩;unfold al;exact⟨rfl,ah rfl gs.gr hh⟩
    |ok n s2=>rintro e w5⟨⟨v,rfl,hv⟩,N⟩;obtain⟨A,cp,rfl,hC⟩:=hv.toC;have gl:=ga.grown N.gr;obtain⟨d0,d1,d2,d3,e0,e1,e2,e3⟩:=ag gl;have HF:=hid gb;clear HE gb gu;(go_wp2_with fail);refine aB HF.out hv (gs.trans N) gl (d5 _) gd ?_ rfl (by rfl) rfl;intro b hb;constructor<;>omega
   |false=>
    refine(bA E s _ w3 gh.rd hK).mono ?_;rintro e w4⟨rfl,gg⟩;have ga:=gm.below gg.bel gx;replace gg:=gh.step gg.bel;have h6:=ga.lt;have HE:=hid (show(cG E.c s).bind (fun x s1=>if aP E.c s1 ⟨#[91]⟩ && !dp E.c s1 then(aX F.typ ⟨#[93]⟩ F.g [] E.c (adv s1)).bind fun l s2=>if l.length=0 then .fail (av E.c s2)else .ok (.mk 10 x l (av E.c s)) s2 else .ok (.mk 10 x [] (av E.c s)) s1)=res by rw[<-M.out,wG];simp only[hA,hB,hK,gT,jY]);clear gh gm gx hA hB hK M;(go_wp2_with fail);by_cases hN:(ar E.c s.at_).kind=1
    case neg=>refine(mQ E s w4 gg.rd hN).mono ?_;rintro e w5⟨rfl,h8⟩;unfold al;exact⟨rfl,ah (by rw[<-HE.out,cG,gA hN];rfl) gg.moved.gr (ak _ h8)⟩
    have I:=hid (show(if aP E.c (adv s) ⟨#[91]⟩ && !dp E.c (adv s)then(aX F.typ ⟨#[93]⟩ F.g [] E.c (adv (adv s))).bind fun l s2=>if l.length=0 then .fail (av E.c s2)else .ok (.mk 10 (ar E.c s.at_).text l (av E.c s)) s2 else .ok (.mk 10 (ar E.c s.at_).text [] (av E.c s)) (adv s))=res by rw[<-HE.out,cG,gE hN];rfl);refine(lE E s w4 gg.rd hN).mono ?_;rintro e w5⟨rfl,N⟩;have gl:=ga.grown N.gr;have g2:=gg.moved.trans N;have hy:=N.gr.size;clear HE hN N gg ga;generalize(ar E.c s.at_).text=tx at *;(go_wp2_with fail);refine(aN _ _ _ _ _ ⟨_,_,_,rfl⟩).mono ?_;rintro e w6⟨rfl,ge⟩;have g5:=gl.below ge (by omega);have hl:=g2.step ge;have ji:=ge.size;clear ge gl g2;(go_wp2_with fail);have hr:=au.new w6 24 #[.int .i64 10,.string tx,.slice none 0 0,.int .i64 (av E.c s)];have ht:=g5.alloc (.cells #[.int .i64 10,.string tx,.slice none 0 0,.int .i64 (av E.c s)] 24);have hk:=hl.alloc (.cells #[.int .i64 10,.string tx,.slice none 0 0,.int .i64 (av E.c s)] 24);refine(bW E (adv s) _ _ hk.rd).mono ?_;rintro e w8⟨rfl,g0⟩;have ho:=hr.below g0 (by simp);have g4:=ht.below g0 (by simp;omega);have g1:=hk.step g0;(have jh:w6.heap.size+1<=w8.heap.size:=by have:=g0.size;simp at this;omega);clear hr ht hk g0;cases hI:aP E.c (adv s) ⟨#[91]⟩with
    |false=>have HF:=hid (show res=.ok (.mk 10 tx [] (av E.c s)) (adv s)by rw[<-I.out];simp[hI]);obtain⟨x0,x1,x2,x3,_,_,_,_⟩:=ag ho;obtain⟨d0,d1,d2,d3,e0,e1,e2,e3⟩:=ag g4;clear I;(go_wp2_with fail);refine aB (X:=fun _=>False) HF.out (aq.leaf _ _ _) g1 g4 (d5 _) gd ?_ rfl (by rfl) rfl;exact fun _ h=>h.elim
    |true=>
     (go_wp2_with fail);refine(ri E (adv s) _ g1.rd).mono ?_;rintro e w9⟨rfl,gv⟩;have hn:=ho.below gv.bel (by omega);have g3:=g4.below gv.bel (by omega);have gq:=g1.trans gv.moved;have jg:=gv.bel.size;clear ho g4 g1 gv;cases hJ:dp E.c (adv s)with
     |true=>have HF:=hid (show res=.ok (.mk 10 tx [] (av E.c s)) (adv s)by rw[<-I.out];simp[hI,hJ]);obtain⟨x0,x1,x2,x3,_,_,_,_⟩:=ag hn;obtain⟨d0,d1,d2,d3,e0,e1,e2,e3⟩:=ag g3;clear I;(go_wp2_with fail);refine aB (X:=fun _=>False) HF.out (aq.leaf _ _ _) gq g3 (d5 _) gd ?_ rfl (by rfl) rfl;exact fun _ h=>h.elim
     |false=>
      have g8:=hid (show(aX F.typ ⟨#[93]⟩ F.g [] E.c (adv (adv s))).bind (fun l s2=>if l.length=0 then .fail (av E.c s2)else .ok (.mk 10 tx l (av E.c s)) s2)=res by rw[<-I.out];simp[hI,hJ]);have jf:=pE gq.rd hI;obtain⟨c0,c1,c2,c3,c4,f0⟩:=gq.rd.cells;have f1:=f0 1;have h3:=gq.rd.lt;clear I hI hJ f0;(go_wp2_with fail);have gk:=gq.setAt ((adv s).at_+1) (by omega);have he:=hn.far (p:=⟨E.R,1,none⟩) (by show w6.heap.size≠E.R;omega) (.int .i64 (((adv s).at_+1:Nat):Int));have hg:=g3.far (p:=⟨E.R,1,none⟩) (by show w.heap.size≠E.R;omega) (.int .i64 (((adv s).at_+1:Nat):Int));(have jc:w9.heap.size<=(w9.setCell ⟨E.R,1,none⟩ (.int .i64 (((adv s).at_+1:Nat):Int))).heap.size:=by simp);clear hn g3 gq c0 c1 c2 c3 c4 f1;cases J:aX F.typ ⟨#[93]⟩ F.g [] E.c (adv (adv s))with
      |out=>exact absurd g8.out.symm (by rw[J];exact gu.out)
      |fail q=>refine(lF E 131 #[E.R] #[] F.typ ⟨#[93]⟩ F.g (adv (adv s)) _ gk.rd AN (hF.typ.part _) (by rw[J];exact nofun) hF.g).mono ?_;rw[J];rintro e w11⟨rfl,hp⟩;unfold al;exact⟨rfl,ah (by rw[<-g8.out,J];rfl) gk.gr hp⟩
      |ok l s2=>
       have g7:=hid (show(if l.length=0 then .fail (av E.c s2)else .ok (.mk 10 tx l (av E.c s)) s2)=res by rw[<-g8.out,J];rfl);refine(lF E 131 #[E.R] #[] F.typ ⟨#[93]⟩ F.g (adv (adv s)) _ gk.rd AN (hF.typ.part _) (by rw[J];exact nofun) hF.g).mono ?_;rw[J];rintro e w11⟨⟨v,rfl,hv⟩,gj⟩;have ha:=he.grown gj.gr;have hf:=hg.grown gj.gr;have g9:=gk.trans gj;have jb:=gj.gr.size;have hw:=hv.mono (Y:=fun b=>w6.heap.size+1<=b) (fun b hb _=>by omega);obtain⟨A,cp,xs,rfl,_,_,_⟩:=hv;obtain⟨x0,x1,x2,x3,y0,y1,y2,y3⟩:=ag ha;have je:=ha.lt;clear g8 J he hg gk gj;by_cases hz:l.length=0
       ·have HF:=hid (show res=.fail (av E.c s2)by rw[<-g7.out,gE hz]);(have hu:((l.length:Int)==0)=true:=by rw[hz];rfl);clear g7 hz;(go_wp2_with fail);have gn:=g9.own (p:=⟨w6,2,none⟩) (by show w.heap.size<=w6.heap.size;omega) (by show E.R<w6.heap.size;omega) (.slice A l.length cp);refine(eE E s2 _ gn.rd).mono ?_;rintro e w13⟨rfl,hq⟩;unfold al;exact⟨rfl,ah HF.out gn.gr (ak _ hq)⟩
       ·have HF:Hid (res=.ok (.mk 10 tx l (av E.c s)) s2):=hid (by rw[<-g7.out,gA hz]);(have hu:((l.length:Int)==0)=false:=by rw[gF];omega);obtain⟨d0,d1,d2,d3,e0,e1,e2,e3⟩:=ag hf;(have jd:w.heap.size≠w6.heap.size:=by omega);clear g7 hz;(go_wp2_with fail);have gn:=g9.own (p:=⟨w6,2,none⟩) (by show w.heap.size<=w6.heap.size;omega) (by show E.R<w6.heap.size;omega) (.slice A l.length cp);refine aB (X:=fun b=>w6.heap.size+1<=b) HF.out ?_ gn (hf.far (p:=⟨w6,2,none⟩) (by show w.heap.size≠w6.heap.size;omega) (.slice A l.length cp)) (d5 _) gd ?_ rfl (by rfl) rfl
        ·exact(aq.of_slice hw 10 tx (av E.c s)).kept ((am.refl _ _).setCell (fun hX=>by simp at hX;omega) _)
        ·intro b hb;constructor<;>omega
theorem sI(E:co)(F:fJ)(hF:oy E F):eF E (lU F) 216:=by
 intro w s h hno;generalize hres:lU F E.c s=res at *;have N:=hid hres;have gp:=hid hno;have gg:=h.lt;clear hres hno;(go_enter Tryz.func216,Tryz.ntmps216);(go_wp2_with fail);refine(bL E s _ (h.alloc _)).mono ?_;unfold it;rintro e w1⟨rfl,gk⟩;have O:=((cU.refl h).alloc _).step gk;have gd:=(au.new w 24 bD).below gk (by simp);have gi:=gd.lt;clear gk;(go_wp2_with fail);cases hA:aP E.c s ⟨#[126]⟩with
 |true=>
  have HE:=hid (show(F.typ E.c (adv s)).bind (fun t s1=>.ok (.mk 15 ⟨#[126]⟩ [t] (av E.c s)) s1)=res by rw[<-N.out,lU,gE hA]);refine(bi E s _ w1 O.rd hA).mono ?_;rintro e w2⟨rfl,U⟩;have gn:=gd.grown U.gr;have J:=O.moved.trans U;have gs:=U.gr.size;clear N hA gd O;(go_wp2_with fail);cases M:F.typ E.c (adv s)with
  |out=>exact absurd HE.out.symm (by rw[M];exact gp.out)
  |fail p=>refine(hF.typ w2 _ U.rd (by rw[M];exact nofun)).mono ?_;rw[M];rintro e w3⟨rfl,gj⟩;unfold al;exact⟨rfl,ah (by rw[<-HE.out,M];rfl) J.gr gj⟩
  |ok n s1=>have HF:Hid (res=.ok (.mk 15 ⟨#[126]⟩ [n] (av E.c s)) s1):=hid (by rw[<-HE.out,M];rfl);refine(hF.typ w2 _ U.rd (by rw[M];exact nofun)).mono ?_;rw[M];rintro e w3⟨⟨v,rfl,hv⟩,D⟩;obtain⟨A,cp,rfl,hC⟩:=hv.toC;have gb:=gn.grown D.gr;have gm:=J.trans D;have gq:=D.gr.size;have gh:=gb.lt;clear M HE U D J;(go_wp2_with fail);refine(aN _ _ _ _ _ ⟨_,_,_,rfl⟩).mono ?_;rintro e w4⟨rfl,I⟩;have hV:=aq.make 1 rfl (an.one hC) 15 ⟨#[126]⟩ (av E.c s) I;have ga:=(gb.alloc _).below I (by simp;omega);have gl:=(gm.alloc _).step I;obtain⟨d0,d1,d2,d3,e0,e1,e2,e3⟩:=ag ga;clear I;(go_wp2_with fail);refine aB HF.out hV gl ga (d5 _) gg ?_ rfl (by rfl) rfl;rintro b(⟨hb,_⟩|rfl)<;>constructor<;>omega
 |false=>
  have HE:=hid (show(F.typ E.c s).bind (fun t s1=>.ok (.mk 15 ⟨#[]⟩ [t] (av E.c s)) s1)=res by rw[<-N.out,lU];simp only[hA,gT,jY]);refine(bA E s _ w1 O.rd hA).mono ?_;rintro e w2⟨rfl,ge⟩;have gn:=gd.below ge.bel gi;have J:=O.moved.trans ge.moved;have gs:=ge.bel.size;clear N hA gd O;(go_wp2_with fail);cases M:F.typ E.c s with
  |out=>exact absurd HE.out.symm (by rw[M];exact gp.out)
  |fail p=>refine(hF.typ w2 _ J.rd (by rw[M];exact nofun)).mono ?_;rw[M];rintro e w3⟨rfl,gj⟩;unfold al;exact⟨rfl,ah (by rw[<-HE.out,M];rfl) J.gr gj⟩
  |ok n s1=>have HF:Hid (res=.ok (.mk 15 ⟨#[]⟩ [n] (av E.c s)) s1):=hid (by rw[<-HE.out,M];rfl);refine(hF.typ w2 _ J.rd (by rw[M];exact nofun)).mono ?_;rw[M];rintro e w3⟨⟨v,rfl,hv⟩,D⟩;obtain⟨A,cp,rfl,hC⟩:=hv.toC;have gb:=gn.grown D.gr;have gm:=J.trans D;have gq:=D.gr.size;have gh:=gb.lt;clear M HE ge D J;(go_wp2_with fail);refine(aN _ _ _ _ _ ⟨_,_,_,rfl⟩).mono ?_;rintro e w4⟨rfl,I⟩;have hV:=aq.make 1 rfl (an.one hC) 15 ⟨#[]⟩ (av E.c s) I;have ga:=(gb.alloc _).below I (by simp;omega);have gl:=(gm.alloc _).step I;obtain⟨d0,d1,d2,d3,e0,e1,e2,e3⟩:=ag ga;clear I;(go_wp2_with fail);refine aB HF.out hV gl ga (d5 _) gg ?_ rfl (by rfl) rfl;rintro b(⟨hb,_⟩|rfl)<;>constructor<;>omega
end
section
open Go.RowKit Go.Lib Go.Proofs
structure iH(B:Nat)(Z:Nat->Prop)(w:World)(v:Value)(l:List Nd):Prop where
 out:∃xs,w.ownsRow B 24 4 v l.length xs/\an (fun b=>B<=b/\some b≠v.ownBlock/\¬ Z b) w l xs
 far:∀g,v.ownBlock=some g->¬ Z g
section
variable {B:Nat} {Z:Nat->Prop} {w w':World} {v:Value} {l:List Nd}
theorem iH.nil(B:Nat)(Z:Nat->Prop)(w:World):iH B Z w (.slice none 0 0) []:=⟨⟨[],qS _ _ _ _,an.nil⟩,fun g h=>by simp[Value.ownBlock]at h⟩
theorem iH.keep(h:iH B Z w v l)(J:∀b,B<=b->¬ Z b->b<w.heap.size->w'.heap[b]? = w.heap[b]?):iH B Z w' v l:=by
 obtain⟨xs,N,O⟩:=h.out;refine⟨⟨xs,⟨N.1,?_⟩,O.keep fun b hb D=>J b hb.1 hb.2.2 D⟩,h.far⟩;rcases N.2 with U|⟨g,cap,cur,e,M,I,r⟩
 ·exact .inl U
 ·refine .inr ⟨g,cap,cur,e,M,?_,r⟩;have D:g<w.heap.size:=by
   rcases jZ g w.heap.size with D|hge
   ·exact D
   ·rw[kI hge]at I;cases I
  exact(J g M (h.far g (by rw[e];rfl)) D).trans I
theorem iH.kept(h:iH B Z w v l)(D:am (fun b=>B<=b/\¬ Z b) w w'):iH B Z w' v l:=h.keep fun b J I h3=>D.block b ⟨J,I⟩ h3
theorem iH.grown{R:Nat}(h:iH B Z w v l)(D:w.grownBy w' (some R))(I:R<B):iH B Z w' v l:=
 h.keep fun b hb _ hlt=>D.block b hlt (fun e=>by injection e;omega)
theorem iH.lt(h:iH B Z w v l):∀g,v.ownBlock=some g->B<=g/\g<w.heap.size:=by obtain⟨xs,D,_⟩:=h.out;exact fun g hg=>D.lt g hg
theorem iH.values(h:iH B Z w v l):dG (fun b=>B<=b/\¬ Z b) w v l:=by
 obtain⟨xs,D,J⟩:=h.out;rcases D.2 with⟨rfl,h0⟩|⟨g,cap,cur,rfl,hg,U,I,_,N,M⟩
 ·exact⟨none,0,xs,by rw[h0],by omega,⟨D.1,fun h=>by omega⟩,J.mono fun b hb _=>⟨hb.1,hb.2.2⟩⟩
 ·refine⟨_,cap,xs,rfl,I,⟨D.1,fun _=>⟨g,0,rfl,⟨hg,h.far g rfl⟩,fun j u hu=>?_⟩⟩,J.mono fun b hb _=>⟨hb.1,hb.2.2⟩⟩;(have O:j<l.length*4:=by have:=(List.getElem?_eq_some_iff.1 hu).1;rw[D.1]at this;exact this);rw[kR];unfold World.cell?;rw[U];simp only[qo,gT,jY];rw[<-M,qV O]at hu;rw[<-hu];simp
theorem iH.form(h:iH B Z w v l):∃A c,v=.slice A l.length c/\l.length<=c:=by obtain⟨A,c,xs,e,D,_⟩:=h.values;exact⟨A,c,e,D⟩
theorem iH.one{K S:Nat}{n:Nd}{a b c d:Value}{w1:World}(hb:au w K 24 #[a,b,c,d])(I:B<=K)(hK:w1.heap.size=K)(O:bK (fun b=>S<=b) w1 n [a,b,c,d])(U:B<=S)
  (N:∀b,S<=b->b<w1.heap.size->w.heap[b]? = w1.heap[b]?)(J:∀b,S<=b->b<=K->¬ Z b)(D:S<=K):iH B Z w (.slice (some ⟨K,0,none⟩) 1 1) [n]:=by
 refine⟨⟨[a,b,c,d],⟨rfl,.inr ⟨K,1,#[a,b,c,d],rfl,I,hb,d5 _,by unfold maxLen;omega,rfl,rfl⟩⟩,?_⟩,fun g hg=>?_⟩
 ·have h1:=an.one (O.mono (Y:=fun b=>S<=b/\b<K) fun b hb hlt=>⟨hb,by omega⟩);have h:=h1.keep (w':=w) fun b hb hlt=>N b hb.1 hlt;refine h.mono fun b hb _=>⟨by omega,fun e=>?_,J b hb.1 (by omega)⟩;(have M:b=K:=by simpa[Value.ownBlock]using e);omega
 ·(have M:K=g:=by simpa[Value.ownBlock]using hg);subst M;exact J K D (d5 _)
end
structure FY(E:co)(s:St)(B:Nat)(Z:Nat->Prop)(w w1 w2:World)(v':Value)(l:List Nd):Prop where
 own:iH B Z w2 v' l
 mov:aD E s w w2
 old:∀b,b<w1.heap.size->(Z b\/b<B)->w2.heap[b]? = w1.heap[b]?
 le:w1.heap.size<=w2.heap.size
theorem Lo{o:Oper}{a:Act}{K:Act->World->Prop}{Q:Exit->Act->World->Prop}(s x:Operand)
  (ho:o.op=.call { callee:=.builtin .append,args:=#[s,x],argTypes:=#[22,22] })
  (E:co)(st:St)(B S:Nat)(Z:Nat->Prop)(w w1:World)(u:Value)(l:List Nd)(n:Nd)(A:Option Addr)(cap:Nat)(hs:a.eval s=u)(hx:a.eval x=.slice (some ⟨w1,0,none⟩) 1 1)
  (hO:iH B Z w1 u l)(I:aD E st w w1)(gk:w.heap.size<=B)(hR:E.R<B)(hB:B<=S)(hS:S<=w1.heap.size)(hZ:∀b,Z b->b<S)(hu:∀g,u.ownBlock=some g->g<S)(hl:l.length<=1000000)
  (hV:bK (fun b=>S<=b) w1 n [.int .i64 n.kind,.string n.text,.slice A n.kids.length cap,.int .i64 n.pos])
  (h:∀g c w2,FY E st B Z w w1 w2 (.slice (some ⟨g,0,none⟩) (l.length+1) c) (l++[n])->K (a.put o.dst (.slice (some ⟨g,0,none⟩) (l.length+1) c)) w2):
  o.wp Tryz.prog a (w1.alloc (.cells (nv n A cap) 24)) K Q:=by
 obtain⟨i0,hi,gg,ge,gd⟩:=qH pF;obtain⟨xs,O,gi⟩:=hO.out;refine vj _ s x 22 ho B 24 i0 _ 4 56 Tryz.underlying22 hi gg ge gd rfl (by omega) u l.length xs hs (O.alloc _) ⟨w1,0,none⟩ 1 1 [.int .i64 n.kind,.string n.text,.slice A n.kids.length cap,.int .i64 n.pos] hx rfl
  (qx (cs:=(nv n A cap)) (qq _ _)) (sH n A cap) (by omega) (by unfold maxLen;omega) (by omega) (by rw[jO];omega) _ rfl ?_
 intro g c w2 hown1 N gb _;have gh:∀g,u.ownBlock=some g->B<=g:=fun g N=>(hO.lt g N).1;have J:∀b,b<w1.heap.size->some b≠u.ownBlock->w2.heap[b]? = w1.heap[b]? :=fun b hb hne=>(N.block b (by rw[jO];omega) hne).trans (gW w1 _ b hb);have hold:∀b,b<w1.heap.size->(Z b\/b<B)->w2.heap[b]? = w1.heap[b]? :=fun b hb gj=>J b hb (fun e=>by
  rcases gj with h|h
  ·exact hO.far b e.symm h
  ·have:=gh b e.symm;omega)
 have U:w1.heap.size<=w2.heap.size:=jB (by rw[jO];omega) N.size;have ga:¬ Z g:=by
  rcases gb with e|e
  ·exact hO.far g e
  ·rw[jO]at e;intro hz;have:=hZ g hz;omega
 have M:an (fun b=>B<=b/\some b≠(Value.slice (some ⟨g,0,none⟩) (l.length+1) c).ownBlock/\¬ Z b) w2 (l++[n]) (xs++[.int .i64 n.kind,.string n.text,.slice A n.kids.length cap,.int .i64 n.pos]):=by
  have h1:an (fun b=>B<=b/\some b≠u.ownBlock/\¬ Z b/\b<w1.heap.size) w1 (l++[n]) (xs++[.int .i64 n.kind,.string n.text,.slice A n.kids.length cap,.int .i64 n.pos]):=
   (gi.mono fun b hb D=>⟨hb.1,hb.2.1,hb.2.2,D⟩).app (an.one (hV.mono fun b hb D=>⟨jB hB hb,fun e=>by have:=hu b e.symm;omega,fun hz=>by have:=hZ b hz;omega,D⟩))
  have h2:=h1.keep (w':=w2) fun b hb D=>J b D hb.2.1;refine h2.mono fun b hb _=>⟨hb.1,fun e=>?_,hb.2.2.1⟩;(have e3:b=g:=by simpa[Value.ownBlock]using e);subst e3;rcases gb with e|e
  ·exact hb.2.1 e.symm
  ·rw[jO]at e;have:=hb.2.2.2;omega
 refine h g c w2 ⟨⟨⟨_,by rw[gJ];exact hown1,M⟩,fun g' hg'=>?_⟩,⟨I.rd.keep fun b hb=>?_,?_⟩,hold,U⟩
 ·(have e3:g=g':=by simpa[Value.ownBlock]using hg');rw[<-e3];exact ga
 ·exact hold b (Nat.lt_of_le_of_lt hb I.rd.lt) (.inr (by omega))
 ·refine⟨N.os.trans I.gr.os,N.tape.trans I.gr.tape,N.output.trans I.gr.output,jB I.gr.size U,fun k hk hne=>?_⟩;exact(hold k (kH hk I.gr.size) (.inr (by omega))).trans (I.gr.block k hk hne)
theorem f6{ops:Array Oper}{o:Oper}{a:Act}{K:Act->World->Prop}{Q:Exit->Act->World->Prop}{D:Prop}(J:o.guard=none)(s x:Operand)
  (U:o.op=.call { callee:=.builtin .append,args:=#[s,x],argTypes:=#[22,22] })
  (E:co)(st:St)(B S:Nat)(Z:Nat->Prop)(w w1:World)(u:Value)(l:List Nd)(n:Nd)(A:Option Addr)(cap:Nat)(hs:a.eval s=u)(M:a.eval x=.slice (some ⟨w1,0,none⟩) 1 1)
  (hO:iH B Z w1 u l)(hm:aD E st w w1)(I:w.heap.size<=B)(hR:E.R<B)(hB:B<=S)(hS:S<=w1.heap.size)(hZ:∀b,Z b->b<S)(O:∀g,u.ownBlock=some g->g<S)(hl:l.length<=1000000)
  (hV:bK (fun b=>S<=b) w1 n [.int .i64 n.kind,.string n.text,.slice A n.kids.length cap,.int .i64 n.pos])
  (h:∀g c w2,FY E st B Z w w1 w2 (.slice (some ⟨g,0,none⟩) (l.length+1) c) (l++[n])->K (a.put o.dst (.slice (some ⟨g,0,none⟩) (l.length+1) c)) w2):
  if Region.wanted o (yielded ops a.tmps)=true then Oper.wp Tryz.prog o a (w1.alloc (.cells (nv n A cap) 24)) K Q else D:=by(have N:Region.wanted o (yielded ops a.tmps)=true:=by simp[Region.wanted,J]);rw[gE N];exact Lo s x U E st B S Z w w1 u l n A cap hs M hO hm I hR hB hS hZ O hl hV h
end
section
open Go.RowKit Go.Lib Go.Proofs
attribute [local go_sem ↓] Go.wp_at_zero Go.wp_at_succ
theorem OQ:(Tryz.prog.info? 43).map (fun i=>(i.zero,i.size,i.bytes))=some (some (.agg #[.int .i64 0,.string ⟨#[]⟩,.int .i64 0]),3,32):=by kernel_rfl
theorem Lp(l:List cY):∀u∈l.flatMap ou,u.oneCell'=true:=by intro u hu;obtain⟨x,_,D⟩:=List.mem_flatMap.1 hu;unfold ou at D;simp only[vd,qM,or_false]at D;rcases D with rfl|rfl|rfl<;>rfl
def lZ(B:Nat)(w:World)(v:Value)(l:List cY):Prop:=w.ownsRow B 43 3 v l.length (l.flatMap ou)
section
variable {B:Nat} {w w':World} {v:Value} {l:List cY}
theorem lZ.nil(B:Nat)(w:World):lZ B w (.slice none 0 0) []:=qS _ _ _ _
theorem lZ.keep(h:lZ B w v l)(M:∀b,B<=b->b<w.heap.size->w'.heap[b]? = w.heap[b]?):lZ B w' v l:=by
 refine⟨h.1,?_⟩;rcases h.2 with N|⟨g,cap,cur,e,J,I,r⟩
 ·exact .inl N
 ·refine .inr ⟨g,cap,cur,e,J,?_,r⟩;have D:g<w.heap.size:=by
   rcases jZ g w.heap.size with D|hge
   ·exact D
   ·rw[kI hge]at I;cases I
  exact(M g J D).trans I
theorem lZ.below(h:lZ B w v l)(hb:Below w w w'):lZ B w' v l:=h.keep fun b _ hlt=>hb.block b hlt
theorem lZ.lt(h:lZ B w v l):∀g,v.ownBlock=some g->B<=g/\g<w.heap.size:=fun g hg=>qZ h g hg
theorem lZ.form(h:lZ B w v l):∃A c,v=.slice A l.length c/\l.length<=c:=by
 rcases h.2 with⟨rfl,I⟩|⟨g,cap,cur,rfl,_,_,D,_⟩
 ·exact⟨none,0,by rw[I],by omega⟩
 ·exact⟨_,cap,rfl,D⟩
end
structure CT(B:Nat)(w1 w2:World)(u v':Value)(l':List cY):Prop where
 own:lZ B w2 v' l'
 bel:Below B w1 w2
 keep:∀b,b<w1.heap.size->u.ownBlock≠some b->w2.heap[b]? = w1.heap[b]?
 at_:v'.ownBlock=u.ownBlock\/∃g,v'.ownBlock=some g/\w1.heap.size<=g
theorem CU{o:Oper}{a:Act}{K:Act->World->Prop}{Q:Exit->Act->World->Prop}(s x:Operand)
  (ho:o.op=.call { callee:=.builtin .append,args:=#[s,x],argTypes:=#[38,38] })
  (B:Nat)(w1:World)(u:Value)(l:List cY)(t:cY)(hs:a.eval s=u)(S:Nat)(hx:a.eval x=.slice (some ⟨S,0,none⟩) 1 1)(hS:w1.heap.size=S)
  (U:lZ B w1 u l)(hB:B<=w1.heap.size)(hl:l.length<=1000000)
  (h:∀g c w2,CT B w1 w2 u (.slice (some ⟨g,0,none⟩) (l.length+1) c) (l++[t])->K (a.put o.dst (.slice (some ⟨g,0,none⟩) (l.length+1) c)) w2):
  o.wp Tryz.prog a (w1.alloc (.cells #[.int .i64 t.kind,.string t.text,.int .i64 t.pos] 43)) K Q:=by
 subst hS;obtain⟨i0,hi,M,J,I⟩:=qH OQ;refine vj _ s x 38 ho B 43 i0 _ 3 32 Tryz.underlying38 hi M J I rfl (by omega) u l.length _ hs (qX U _) ⟨w1,0,none⟩ 1 1 [.int .i64 t.kind,.string t.text,.int .i64 t.pos] hx rfl
  (qx (cs:=#[.int .i64 t.kind,.string t.text,.int .i64 t.pos]) (qq _ _)) (Lp [t]) (by omega) (by unfold maxLen;omega) (by omega) (by rw[jO];omega) _ rfl ?_
 intro g c w2 hown1 D N _;(have e:(l++[t]).flatMap ou=l.flatMap ou++[.int .i64 t.kind,.string t.text,.int .i64 t.pos]:=by rw[kO];rfl);have O:∀b,b<w1.heap.size->u.ownBlock≠some b->w2.heap[b]? = w1.heap[b]? :=fun b hb hu=>
  (D.block b (by rw[jO];omega) (fun e=>hu e.symm)).trans (gW w1 _ b hb)
 (have hb:Below B w1 w2:=by have h1:=(gG B w1).alloc hB (.cells #[.int .i64 t.kind,.string t.text,.int .i64 t.pos] 43);exact h1.trans ⟨D.os,D.tape,D.output,D.size,fun k O=>D.block k (by rw[jO];omega) (fun e=>by have:=(U.lt k e.symm).1;omega)⟩);refine h g c w2 ⟨?_,hb,O,?_⟩
 ·unfold lZ;rw[e,gJ];exact hown1
 ·rcases N with e|e
  ·exact .inl e.symm
  ·exact .inr ⟨g,rfl,by rw[e,jO];omega⟩
theorem nf{ops:Array Oper}{o:Oper}{a:Act}{K:Act->World->Prop}{Q:Exit->Act->World->Prop}{D:Prop}(I:o.guard=none)(s x:Operand)
  (N:o.op=.call { callee:=.builtin .append,args:=#[s,x],argTypes:=#[38,38] })
  (B:Nat)(w1:World)(u:Value)(l:List cY)(t:cY)(hs:a.eval s=u)(S:Nat)(J:a.eval x=.slice (some ⟨S,0,none⟩) 1 1)(U:w1.heap.size=S)
  (hO:lZ B w1 u l)(hB:B<=w1.heap.size)(O:l.length<=1000000)
  (h:∀g c w2,CT B w1 w2 u (.slice (some ⟨g,0,none⟩) (l.length+1) c) (l++[t])->K (a.put o.dst (.slice (some ⟨g,0,none⟩) (l.length+1) c)) w2):
  if Region.wanted o (yielded ops a.tmps)=true then Oper.wp Tryz.prog o a (w1.alloc (.cells #[.int .i64 t.kind,.string t.text,.int .i64 t.pos] 43)) K Q else D:=by(have M:Region.wanted o (yielded ops a.tmps)=true:=by simp[Region.wanted,I]);rw[gE M];exact CU s x N B w1 u l t hs S J U hO hB O h
theorem BR{ops:Array Oper}{rest:List Oper}{o:Oper}{a:Act}{Q:Exit->Act->World->Prop}(D:o.guard=none)(s x:Operand)
  (J:o.op=.call { callee:=.builtin .append,args:=#[s,x],argTypes:=#[38,38] })
  (B:Nat)(w1:World)(u:Value)(l:List cY)(t:cY)(hs:a.eval s=u)(S:Nat)(I:a.eval x=.slice (some ⟨S,0,none⟩) 1 1)(N:w1.heap.size=S)
  (O:lZ B w1 u l)(hB:B<=w1.heap.size)(M:l.length<=1000000)
  (h:∀g c w2,CT B w1 w2 u (.slice (some ⟨g,0,none⟩) (l.length+1) c) (l++[t])->wpList Tryz.prog ops Q rest (a.put o.dst (.slice (some ⟨g,0,none⟩) (l.length+1) c)) w2):
  wpList Tryz.prog ops Q (o::rest) a (w1.alloc (.cells #[.int .i64 t.kind,.string t.text,.int .i64 t.pos] 43)):=
 vn D fun _ hK=>CU s x J B w1 u l t hs S I N O hB M fun g c w2 h1=>hK _ _ (h g c w2 h1)
def rj(s:ByteArray)(i:Nat)(lv nv:Value):Array Value:=#[.string s,.int .i64 (i:Int),lv,nv]
structure EB(w:World)(X:Nat)(s:ByteArray)(i:Nat)(l:List cY)(lv nv:Value)(ns:List cY):Prop where
 blk:au w X 67 (rj s i lv nv)
 toks:lZ (X+1) w lv l
 notes:lZ (X+1) w nv ns
 apart:∀g,lv.ownBlock=some g->nv.ownBlock=some g->False
 nfew:ns.length<=i
structure iQ(w:World)(X:Nat)(s:ByteArray)(i:Nat)(l:List cY):Prop where
 out:∃lv nv ns,EB w X s i l lv nv ns
 le:i<=s.size
 most:s.size<=65536
 few:l.length<=65537
section
variable {w w':World} {X:Nat} {s:ByteArray} {i:Nat} {l:List cY} {lv nv:Value} {ns:List cY}
theorem EB.keep(h:EB w X s i l lv nv ns)(D:∀b,X<=b->b<w.heap.size->w'.heap[b]? = w.heap[b]?):EB w' X s i l lv nv ns:=
 ⟨(D X (d5 _) h.blk.lt).trans h.blk,h.toks.keep fun b hb hlt=>D b (by omega) hlt,h.notes.keep fun b hb hlt=>D b (by omega) hlt,h.apart,h.nfew⟩
theorem EB.below(h:EB w X s i l lv nv ns)(hb:Below w w w'):EB w' X s i l lv nv ns:=h.keep fun b _ hlt=>hb.block b hlt
theorem EB.set(h:EB w X s i l lv nv ns)(j:Nat)(D:i<=j):EB (w.setCell ⟨X,1,none⟩ (.int .i64 (j:Int))) X s j l lv nv ns:=
 ⟨by simpa[rj]using h.blk.set_ 1 (.int .i64 (j:Int)),h.toks.keep fun b hb _=>jQ w ⟨X,1,none⟩ _ b (by show b≠X;omega),
  h.notes.keep fun b hb _=>jQ w ⟨X,1,none⟩ _ b (by show b≠X;omega),h.apart,jB h.nfew D⟩
theorem EB.row(h:EB w X s i l lv nv ns){w2:World}{lv':Value}{l':List cY}(I:CT (X+1) w w2 lv lv' l'):EB (w2.setCell ⟨X,2,none⟩ lv') X s i l' lv' nv ns:=by
 have O:w2.heap[X]? = w.heap[X]? :=I.bel.block X (by omega);have hb:au w2 X 67 (rj s i lv nv):=O.trans h.blk;have U:lZ (X+1) w2 nv ns:=by
  refine⟨h.notes.1,?_⟩;rcases h.notes.2 with h0|⟨g,cap,cur,e,N,J,r⟩
  ·exact .inl h0
  ·refine .inr ⟨g,cap,cur,e,N,?_,r⟩;(have D:nv.ownBlock=some g:=by rw[e];rfl);exact(I.keep g (h.notes.lt g D).2 (fun e2=>h.apart g e2 D)).trans J
 refine⟨by simpa[rj]using hb.set_ 2 lv',I.own.keep fun b hb _=>jQ w2 ⟨X,2,none⟩ _ b (by show b≠X;omega),
  U.keep fun b hb _=>jQ w2 ⟨X,2,none⟩ _ b (by show b≠X;omega),fun g h1 h2=>?_,h.nfew⟩
 rcases I.at_ with e|⟨g',e,M⟩
 ·exact h.apart g (e▸h1) h2
 ·rw[h1]at e;injection e with e;have:=(h.notes.lt g h2).2;omega
theorem EB.noteRow(h:EB w X s i l lv nv ns){w2:World}{nv':Value}{ns':List cY}(I:CT (X+1) w w2 nv nv' ns')(J:ns'.length<=i):EB (w2.setCell ⟨X,3,none⟩ nv') X s i l lv nv' ns':=by
 have U:w2.heap[X]? = w.heap[X]? :=I.bel.block X (by omega);have hb:au w2 X 67 (rj s i lv nv):=U.trans h.blk;have hL:lZ (X+1) w2 lv l:=by
  refine⟨h.toks.1,?_⟩;rcases h.toks.2 with h0|⟨g,cap,cur,e,O,M,r⟩
  ·exact .inl h0
  ·refine .inr ⟨g,cap,cur,e,O,?_,r⟩;(have D:lv.ownBlock=some g:=by rw[e];rfl);exact(I.keep g (h.toks.lt g D).2 (fun e2=>h.apart g D e2)).trans M
 refine⟨by simpa[rj]using hb.set_ 3 nv',hL.keep fun b hb _=>jQ w2 ⟨X,3,none⟩ _ b (by show b≠X;omega),
  I.own.keep fun b hb _=>jQ w2 ⟨X,3,none⟩ _ b (by show b≠X;omega),fun g h1 h2=>?_,J⟩
 rcases I.at_ with e|⟨g',e,N⟩
 ·exact h.apart g h1 (e▸h2)
 ·rw[h2]at e;injection e with e;have:=(h.toks.lt g h1).2;omega
theorem iQ.below(h:iQ w X s i l)(hb:Below w w w'):iQ w' X s i l:=by obtain⟨lv,nv,ns,D⟩:=h.out;exact⟨⟨lv,nv,ns,D.below hb⟩,h.le,h.most,h.few⟩
theorem iQ.keep(h:iQ w X s i l)(D:∀b,X<=b->w'.heap[b]? = w.heap[b]?):iQ w' X s i l:=by obtain⟨lv,nv,ns,I⟩:=h.out;exact⟨⟨lv,nv,ns,I.keep fun b hb _=>D b hb⟩,h.le,h.most,h.few⟩
theorem iQ.lt(h:iQ w X s i l):X<w.heap.size:=by obtain⟨lv,nv,ns,D⟩:=h.out;exact D.blk.lt
theorem iQ.set(h:iQ w X s i l)(j:Nat)(D:i<=j)(I:j<=s.size):iQ (w.setCell ⟨X,1,none⟩ (.int .i64 (j:Int))) X s j l:=by obtain⟨lv,nv,ns,J⟩:=h.out;exact⟨⟨lv,nv,ns,J.set j D⟩,I,h.most,h.few⟩
end
def sJ(X:Nat)(s:ByteArray)(w:World)(i:Nat)(l:List cY)(v:Value)(e:Ending)(w':World):Prop:=
 e=.returned v/\iQ w' X s i l/\Below X w w'
end
section
open Go.RowKit Go.Lib Go.Proofs
attribute [local go_sem ↓] Go.wp_at_zero Go.wp_at_succ
attribute [local go_sem] aS aT aU bu bv bw bz
theorem rk(E:co)(F:fJ)(hF:oy E F)(p:Int)(w:World)(s:St)(h:aR E w s)(gt:eD F p E.c s≠.out):
  Calls Tryz.prog 178 #[E.R,.int .i64 p] w (mK E w (eD F p E.c s)):=by
 generalize hres:eD F p E.c s=res at *;have I:=hid hres;have gq:=hid gt;have gu:=h.lt;have O:=(aD.refl h).alloc (.cells bD 24);clear hres gt;(go_enter Tryz.func178,Tryz.ntmps178);(go_wp2_with fail);cases D:lU F E.c s with
 |out=>exact absurd I.out.symm (by rw[eD,D];exact gq.out)
 |fail q=>refine(sI E F hF _ s O.rd (by rw[D];exact nofun)).mono ?_;rw[D];rintro e w1⟨rfl,hh⟩;unfold al;exact⟨rfl,ah (by rw[<-I.out,eD,D];rfl) O.gr hh⟩
 |ok n s1=>
  have HE:Hid (eH F p F.g [n] E.c s1=res):=hid (by rw[<-I.out,eD,D];rfl);refine(sI E F hF _ s O.rd (by rw[D];exact nofun)).mono ?_;rw[D];rintro e w1⟨⟨v,rfl,hv⟩,gi⟩;obtain⟨A,cp,rfl,hC⟩:=hv.toC;have gp:=(au.new w 24 bD).grown gi.gr;have gz:=O.trans gi;have he:=gp.lt;clear D I gi O;(go_wp2_with fail);refine(aN _ _ _ _ _ ⟨_,_,_,rfl⟩).mono ?_;rintro e w2⟨rfl,J⟩;have g3:=(au.new w1 24 (nv n A cp)).below J (by simp);have g6:=(gp.alloc _).below J (by simp;omega);have gy:=(gz.alloc _).step J;(have hp:w1.heap.size+1<=w2.heap.size:=by have:=J.size;simp at this;omega);have g8:iH (w.heap.size+1) (fun b=>b=w2.heap.size) w2 (.slice (some ⟨w1,0,none⟩) 1 1) [n]:=
   iH.one (S:=w.heap.size+1) g3 (by omega) rfl (hC.mono fun b hb _=>by simpa using hb) (d5 _)
    (fun b _ hlt=>(J.block b (by simp;omega)).trans (gW w1 _ b hlt)) (fun b _ hb=>by omega) (by omega)
  clear J g3 gp gz hC hv;(go_wp2_with fail);have g2:=au.new w2 24 #[.int .i64 14,.string ⟨#[]⟩,.slice (some ⟨w1,0,none⟩) 1 1,.int .i64 p];have g5:=g6.alloc (.cells #[.int .i64 14,.string ⟨#[]⟩,.slice (some ⟨w1,0,none⟩) 1 1,.int .i64 p] 24);have gx:=gy.alloc (.cells #[.int .i64 14,.string ⟨#[]⟩,.slice (some ⟨w1,0,none⟩) 1 1,.int .i64 p] 24);have g7:=g8.kept (((am.refl _ w2).alloc (.cells #[.int .i64 14,.string ⟨#[]⟩,.slice (some ⟨w1,0,none⟩) 1 1,.int .i64 p] 24)));generalize hL:w2.heap.size=L at *;(have hn:w.heap.size+1<L:=by omega);generalize w2.alloc (.cells #[.int .i64 14,.string ⟨#[]⟩,.slice (some ⟨w1,0,none⟩) 1 1,.int .i64 p] 24)=w3 at *;clear g8 g6 gy hL;go_loopg [12] F.g (fun g _ wr=>∃(acc:List Nd)(s':St)(u:Value),au wr L 24 #[.int .i64 14,.string ⟨#[]⟩,u,.int .i64 p]/\iH (w.heap.size+1) (fun b=>b=L) wr u acc/\au wr w.heap.size 24 bD/\acc.length+g<=1000001/\eH F p g acc E.c s'=res/\aD E s' w wr)
  case atStart=>exact⟨[n],s1,_,g2,g7,g5,by have:=hF.g;simp;omega,HE.out,gx⟩
  case round=>
   clear g2 g7 g5 gx HE;obtain⟨acc,s2,u,hL,HO,hG,ho,hr,hM⟩:=hrel;have HR:=hid hr;clear hr;cases gk with
   |zero=>exact absurd HR.out.symm (by rw[eH];exact gq.out)
   |succ g1=>
    cases hA:aP E.c s2 ⟨#[124]⟩with
    |false=>have HF:Hid (res=.ok (.mk 14 ⟨#[]⟩ acc p) s2):=hid (by rw[<-HR.out,eH];simp only[hA,gT,jY]);clear HR;(go_wp2_with fail);refine(bA E s2 _ _ hM.rd hA).mono ?_;rintro e w4⟨rfl,ga⟩;have U:=hL.bl ga.bel;have gg:=hG.bl ga.bel;have M:=HO.kept (am.of_below ga.bel (fun b _ hlt=>hlt));obtain⟨A4,c4,gh,_⟩:=M.form;subst gh;obtain⟨x0,x1,x2,x3,_,_,_,_⟩:=ag U;obtain⟨d0,d1,d2,d3,e0,e1,e2,e3⟩:=ag gg;clear hA;(go_wp2_with fail);refine aB HF.out (aq.of_slice M.values 14 ⟨#[]⟩ p) (hM.trans ga.moved) gg (d5 _) gu ?_ rfl (by rfl) rfl;rintro b⟨hb,_⟩;constructor<;>omega
    |true=>
     have HE:=hid (show(lU F E.c (adv s2)).bind (fun t s1=>eH F p g1 (acc++[t]) E.c s1)=res by rw[<-HR.out,eH];simp only[hA,kJ]);clear HR;(go_wp2_with fail);refine(bi E s2 _ _ hM.rd hA).mono ?_;rintro e w4⟨rfl,gd⟩;have U:=hL.grown gd.gr;have gg:=hG.grown gd.gr;have M:=HO.grown gd.gr (by omega);have ge:=hM.trans gd;clear hA hL hG HO hM;obtain⟨A4,c4,gh,_⟩:=M.form;subst gh;obtain⟨x0,x1,x2,x3,y0,y1,y2,y3⟩:=ag U;have gl:=U.lt;cases D:lU F E.c (adv s2)with
     |out=>exact absurd HE.out.symm (by rw[D];exact gq.out)
     |fail q=>have HF:Hid (res=.fail q):=hid (by rw[<-HE.out,D];rfl);(go_wp2_with fail);let SS:World->Prop:=fun w'=>w'.cell? ⟨L,2,none⟩=some (.slice A4 acc.length c4);have hk:SS w4.drew:=x2;(refine gZ (S:=SS) (by kernel_rfl) hk ?_;intro gm;refine dL 0 gm ?_;refine dL 1 gm ?_;refine dL 2 gm ?_;refine tM 3 fun K hK=>?_;go_simp);refine(sI E F hF _ (adv s2) ge.drew.rd (by rw[D];exact nofun)).mono ?_;rw[D];rintro e w7⟨rfl,hf⟩;unfold al;exact⟨rfl,ah HF.out ge.drew.gr hf⟩
     |ok n2 s3=>
      have hm:Hid (eH F p g1 (acc++[n2]) E.c s3=res):=hid (by rw[<-HE.out,D];rfl);have HC:=hid (fun W(hr:aR E W (adv s2))=>sI E F hF W (adv s2) hr (by rw[D];exact nofun));rw[D]at HC;clear HE D;(go_wp2_with fail);(have gv:acc.length<=1000000:=by omega);(have gw:E.R<w.heap.size+1:=by omega);(have gs:w.heap.size+1<=w4.heap.size:=by omega);go_region_law (first
       |(refine f6 (by rfl) (.tmp 14) (.tmp 17) (by rfl) E s3 (w.heap.size+1) w4.heap.size (fun b=>b=L) w w5 (.slice A4 acc.length c4) acc n2 A5 c5 (by rfl) (by rfl) hl hi (jE _) gw gs ha (fun b hb=>by rw[hb];exact gl) (fun g hg=>(M.lt g hg).2) gv hj ?_;intro g c w6 gb;have g0:au w6 L 24 #[.int .i64 14,.string ⟨#[]⟩,.slice A4 acc.length c4,.int .i64 p]:=(gb.old L gj (.inl rfl)).trans gn;obtain⟨v0,v1,v2,v3,f0,f1,f2,f3⟩:=ag g0)
       |(go_simp;(go_at_call 216);refine(HC.out _ ge.drew.rd).mono ?_;rintro e w5⟨⟨v,rfl,g9⟩,N⟩;obtain⟨A5,c5,rfl,hj⟩:=g9.toC;have gn:=U.drew.grown N.gr;have g4:=gg.drew.grown N.gr;have hl:=(M.kept ((am.refl _ _).drew)).grown N.gr gw;have hi:=ge.drew.trans N;have ha:w4.heap.size<=w5.heap.size:=N.gr.size;have gj:=gn.lt;obtain⟨z0,z1,z2,z3,_,_,_,_⟩:=ag gn))
      (all_goals go_wp2_with fail);all_goals
       go_roundg g1
       case measure=>omega
       case rel=>
        refine⟨acc++[n2],s3,_,by simpa using g0.set_ 2 (.slice (some ⟨g,0,none⟩) (acc.length+1) c),?_,?_,by rw[gJ];simp;omega,hm.out,?_⟩
        ·exact gb.own.kept ((am.refl _ _).setCell (fun hX=>hX.2 rfl) _)
        ·exact au.far (show au w6 w.heap.size 24 bD from(gb.old w.heap.size (by have:=g4.lt;omega) (.inr (by omega))).trans g4) (p:=⟨L,2,none⟩) (by show w.heap.size≠L;omega) _
        ·exact gb.mov.own (p:=⟨L,2,none⟩) (by show w.heap.size<=L;omega) (by show E.R<L;omega) _
end
end Go.Proofs.YtiebcdeafofgdaaGreatDoor
