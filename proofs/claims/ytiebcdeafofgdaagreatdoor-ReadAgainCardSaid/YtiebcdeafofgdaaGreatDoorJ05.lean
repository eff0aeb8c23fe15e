/-
  Parts of the proof: Rhead Rpost Rtdecl Tkit Rput Tstr Tname Tof Tall Tofk. By an AI agent.
-/
import Derived.Test.YtiebcdeafofgdaaGreatDoorJ04
import Derived.Test.YtiebcdeafofgdaaGreatDoorJ00
import Derived.Laws.RangeAny
import Derived.Lib.RuneCount
import Derived.Laws.Entries
set_option maxRecDepth 100000
set_option maxHeartbeats 8000000
namespace Go.Proofs.YtiebcdeafofgdaaGreatDoor
section
open Go.RowKit Go.Lib Go.Proofs
attribute [local go_sem ↓] Go.wp_at_zero Go.wp_at_succ
attribute [local go_sem] aS aT aU bu bv bw bz
theorem gP:type_of% @Nat.zero_le:=@Nat.zero_le
theorem jU:type_of% @List.drop_of_length_le:=@List.drop_of_length_le
theorem jX:type_of% @List.drop_eq_getElem_cons:=@List.drop_eq_getElem_cons
theorem kC:type_of% @List.all_cons:=@List.all_cons
theorem qf:type_of% @decide_eq_decide:=@decide_eq_decide
theorem qz:type_of% @Go.World.iter_heap:=@Go.World.iter_heap
theorem qA:type_of% @Go.Lib.run_next_end_at:=@Go.Lib.run_next_end_at
theorem qI:type_of% @Go.Lib.run_next_any_at:=@Go.Lib.run_next_any_at
theorem qL:type_of% @Go.Lib.iterAt_heap:=@Go.Lib.iterAt_heap
theorem EW(E:co)(F:fJ)(hF:oy E F)(hR:wV E F):eF E (eW F) 235:=by
 intro w s h hno;generalize I:eW F E.c s=res at *;have gi:=hid I;have gn:=hid hno;have gg:=h.lt;clear I hno;(go_enter Tryz.func235,Tryz.ntmps235);(go_wp2_with fail);refine(bL E s _ (h.alloc _)).mono ?_;unfold it;rintro e w1⟨rfl,gb⟩;have N:=((cU.refl h).alloc _).step gb;have gx:=(au.new w 24 bD).below gb (by simp);have gy:=gb.size;simp at gy;clear gb;have HE:=hid (show(F.expr E.c s).bind (fun x s1=>if aP E.c s1 ⟨#[123]⟩then .ok x s1 else fW F (av E.c s) x E.c s1)=res from gi.out);clear gi;(go_wp2_with fail);cases hP:F.expr E.c s with
 |out=>exact absurd HE.out.symm (by rw[hP];exact gn.out)
 |fail q=>refine(hF.expr w1 s N.rd (by rw[hP];exact nofun)).mono ?_;rw[hP];rintro e w3⟨rfl,g0⟩;unfold al;exact⟨rfl,ah (by rw[<-HE.out,hP];rfl) N.moved.gr g0⟩
 |ok n s1=>
  have gp:=hid (show(if aP E.c s1 ⟨#[123]⟩then .ok n s1 else fW F (av E.c s) n E.c s1)=res by rw[<-HE.out,hP];rfl);refine(hF.expr w1 s N.rd (by rw[hP];exact nofun)).mono ?_;rw[hP];rintro e w3⟨⟨v,rfl,hv⟩,O⟩;obtain⟨A3,c3,rfl,g2⟩:=hv.toC;have gw:=gx.grown O.gr;have gu:=N.moved.trans O;have g5:=O.gr.size;have gj:=au.new w3 24 (nv n A3 c3);have J:=gu.alloc (.cells (nv n A3 c3) 24);have gm:=gw.alloc (.cells (nv n A3 c3) 24);have M:=(aH w3 (nv n A3 c3)).1;have gl:=hv.keep (w':=w3.alloc (.cells (nv n A3 c3) 24)) fun b _ hlt=>M.block b hlt;have gh:=O.gr.trans (ak (some E.R) M);have g4:=M.size;(have U:w3.heap.size<(w3.alloc (.cells (nv n A3 c3) 24)).heap.size:=by simp);clear hP HE hv g2 gu gw gx O M;(go_wp2_with fail);cases hA:aP E.c s1 ⟨#[123]⟩with
  |true=>have HF:Hid (res=.ok n s1):=hid (by rw[<-gp.out,gE hA]);refine(bW E s1 ⟨#[123]⟩ _ J.rd).mono ?_;rw[hA];rintro e w5⟨rfl,D⟩;have ge:=gm.bl D;have gd:=gj.below D U;have ga:=(aD.trans J ((cU.refl J.rd).step D).moved);have gk:=gl.keep (w':=w5) fun b _ hlt=>D.block b hlt;obtain⟨x0,x1,x2,x3,-,-,-,-⟩:=ag gd;obtain⟨d0,d1,d2,d3,e0,e1,e2,e3⟩:=ag ge;(go_wp2_with fail);refine aB HF.out gk ga ge (d5 _) gg ?_ rfl (by rfl) rfl;intro b hb;constructor<;>omega
  |false=>
   have HF:Hid (fW F (av E.c s) n E.c s1=res):=hid (by rw[<-gp.out,gA (by rw[hA];decide)]);refine(bW E s1 ⟨#[123]⟩ _ J.rd).mono ?_;rw[hA];rintro e w5⟨rfl,D⟩;have ge:=gm.bl D;have gd:=gj.below D U;have ga:=(aD.trans J ((cU.refl J.rd).step D).moved);have gk:=gl.keep (w':=w5) fun b _ hlt=>D.block b hlt;have gt:=gh.trans (ak (some E.R) D);have g3:=D.size;obtain⟨x0,x1,x2,x3,-,-,-,-⟩:=ag gd;clear hA gp D gd gj gm J gl gh;(go_wp2_with fail);refine(hR w1 w5 s1 _ n _ N.rd.lt gt ga.rd gk (by rw[show fW F (ar E.c s.at_).pos n E.c s1=res from HF.out];exact gn.out)).mono ?_;rw[show fW F (ar E.c s.at_).pos n E.c s1=res from HF.out];unfold uB;cases I:res with
   |out=>exact absurd I gn.out
   |fail p=>rintro e w6⟨rfl,gz⟩;unfold al;exact⟨rfl,ah (by first|rfl|exact I) ga.gr gz⟩
   |ok n5 s5=>rintro e w6⟨⟨v6,rfl,gq⟩,gs⟩;obtain⟨A6,c6,rfl,g6⟩:=gq.toC;have gv:=ge.grown gs.gr;have g1:=ga.trans gs;obtain⟨d0,d1,d2,d3,e0,e1,e2,e3⟩:=ag gv;(go_wp2_with fail);refine aB (by first|rfl|exact I) gq g1 gv (d5 _) gg ?_ rfl (by rfl) rfl;intro b hb;constructor<;>omega
theorem wW(E:co)(F:fJ)(hF:oy E F):eF E (db F) 188:=by
 intro w s h hno;generalize D:db F E.c s=res at *;have J:=hid D;have ga:=hid hno;have I:=h.lt;have M:aD E { s with part:=s.at_ } w ((w.setCell ⟨E.R,4,none⟩ (.int .i64 (s.at_:Int))).alloc (.cells bD 24)):=((aD.refl h).setPart (s.at_:Int)).alloc _;have ge:au ((w.setCell ⟨E.R,4,none⟩ (.int .i64 (s.at_:Int))).alloc (.cells bD 24)) w.heap.size 24 bD:=au.new_at (by simp[World.setCell]) _ _;(have gh:w.heap.size+1<=((w.setCell ⟨E.R,4,none⟩ (.int .i64 (s.at_:Int))).alloc (.cells bD 24)).heap.size:=by simp[World.setCell]);obtain⟨c0,c1,c2,c3,c4,cf⟩:=h.cells;have gg:=cf 4;have gi:=qe I;clear D hno cf;have HE:Hid (F.expr E.c { s with part:=s.at_ }=res):=hid J.out;clear J;(go_enter Tryz.func188,Tryz.ntmps188);(go_wp2_with fail);refine(hF.expr _ { s with part:=s.at_ } M.rd (by rw[HE.out];exact ga.out)).mono ?_;rw[HE.out];cases D:res with
 |out=>exact absurd D ga.out
 |fail p=>rintro e w5⟨rfl,gb⟩;unfold al;exact⟨rfl,ah (by first|rfl|exact D) M.gr gb⟩
 |ok n5 s5=>rintro e w5⟨⟨v5,rfl,N⟩,O⟩;obtain⟨A5,c5,rfl,gj⟩:=N.toC;have U:=ge.grown O.gr;have gd:=M.trans O;clear c0 c1 c2 c3 c4 gg;obtain⟨d0,d1,d2,d3,e0,e1,e2,e3⟩:=ag U;(go_wp2_with fail);refine aB (by first|rfl|exact D) N gd U (d5 _) I ?_ rfl (by rfl) rfl;intro b hb;constructor<;>omega
def wX(E:co)(F:fJ):Prop:=∀s x s1,F.expr E.c s=.ok x s1->s.at_<E.c.toks.length
theorem LR(E:co)(F:fJ)(hF:oy E F)(hR:wV E F)(hX:wX E F):eF E (mJ F) 236:=by
 intro w s h hno;generalize hres:mJ F E.c s=res at *;have gb:=hid hres;have gu:=hid hno;have U:=h.lt;have gn:=h.most;have gk:au (w.alloc (.cells bD 24)) w.heap.size 24 bD:=au.new w _ _;have J:aD E s w (w.alloc (.cells bD 24)):=(aD.refl h).alloc _;obtain⟨c0,c1,c2,c3,c4,cf⟩:=h.cells;have gm:=qe U;clear hres hno cf;have HE:=hid (show(fO F E.c s).bind (fun x s1=>if x.kind=26 then .fail (ar E.c (s.at_+1)).pos else .ok x s1)=res from gb.out);clear gb;(have gy:w.heap.size+1<=(w.alloc (.cells bD 24)).heap.size:=by simp);(go_enter Tryz.func236,Tryz.ntmps236);(go_wp2_with fail);cases D:fO F E.c s with
 |out=>exact absurd HE.out.symm (by rw[D];exact gu.out)
 |fail q=>refine(r6 E F hF hR _ s J.rd (by rw[D];exact nofun)).mono ?_;rw[D];rintro e w3⟨rfl,gp⟩;unfold al;exact⟨rfl,ah (by rw[<-HE.out,D];rfl) J.gr gp⟩
 |ok n s1=>
  have O:=hid (show(if n.kind=26 then .fail (ar E.c (s.at_+1)).pos else .ok n s1)=res by rw[<-HE.out,D];rfl);have g0:s.at_<E.c.toks.length:=by
   unfold fO at D;cases hx:F.expr E.c s with
   |ok x s2=>exact hX s x s2 hx
   |fail p=>rw[hx]at D;cases D
   |out=>rw[hx]at D;cases D
  refine(r6 E F hF hR _ s J.rd (by rw[D];exact nofun)).mono ?_;rw[D];rintro e w3⟨⟨v,rfl,hv⟩,M⟩;obtain⟨A3,I,rfl,gt⟩:=hv.toC;have gj:=gk.grown M.gr;have N:=J.trans M;have gx:=M.gr.size;have gh:=au.new w3 24 #[.int .i64 n.kind,.string n.text,.slice A3 n.kids.length I,.int .i64 n.pos];have gs:=N.alloc (.cells #[.int .i64 n.kind,.string n.text,.slice A3 n.kids.length I,.int .i64 n.pos] 24);have ge:=gj.alloc (.cells #[.int .i64 n.kind,.string n.text,.slice A3 n.kids.length I,.int .i64 n.pos] 24);have ga:=(aH w3 #[.int .i64 n.kind,.string n.text,.slice A3 n.kids.length I,.int .i64 n.pos]).1;have gi:=hv.keep (w':=w3.alloc (.cells #[.int .i64 n.kind,.string n.text,.slice A3 n.kids.length I,.int .i64 n.pos] 24)) fun b _ hlt=>ga.block b hlt;clear D HE hv gt J gj gk M ga c0 c1 c2 c3 c4 gm;obtain⟨x0,x1,x2,x3,-,-,-,-⟩:=ag gh;obtain⟨d0,d1,d2,d3,e0,e1,e2,e3⟩:=ag ge;by_cases hk:n.kind=26
  ·have HF:Hid (res=.fail (ar E.c (s.at_+1)).pos):=hid (by rw[<-O.out,gE hk]);obtain⟨y0,y1,y2,y3,y4,yf⟩:=N.rd.cells;have gg:=N.rd.lt;have gv:=qe gg;have gw:=yf 1;have q1:IntKind.i64.wrap ((s.at_:Int)+1)=(s.at_:Int)+1:=gO _ (by omega);have gd:=(N.setAt (s.at_+1) (by omega)).alloc (.cells #[.int .i64 n.kind,.string n.text,.slice A3 n.kids.length I,.int .i64 n.pos] 24);(have gl:((s.at_+1:Nat):Int)=(s.at_:Int)+1:=by omega);rw[gl,hk]at gd;clear gh ge gi yf gl O;(go_wp2_with fail);refine(eE E _ _ gd.rd).mono ?_;rintro e w6⟨rfl,gq⟩;unfold al;exact⟨rfl,ah HF.out gd.gr (ak _ gq)⟩
  ·have HF:Hid (res=.ok n s1):=hid (by rw[<-O.out,gA hk]);(have gz:(n.kind==26)=false:=by simp[hk]);clear hk O;(go_wp2_with fail);refine aB HF.out gi gs ge (d5 _) U ?_ rfl (by rfl) rfl;intro b hb;constructor<;>omega
def nm(F:fJ)(p:Int)(x:ByteArray)(ps:Nd):R Nd:=fun c s2=>
 if aP c s2 ⟨#[61]⟩then(F.typ c (adv s2)).bind fun t s3=>.ok (.mk 4 x [ps,t] p) s3
 else if aP c s2 ⟨#[115,116,114,117,99,116]⟩then(ip F (av c s2) c (adv s2)).bind fun t s3=>.ok (.mk 3 x [ps,t] p) s3
 else if aP c s2 ⟨#[105,110,116,101,114,102,97,99,101]⟩then(fV F (av c s2) c (adv s2)).bind fun t s3=>.ok (.mk 3 x [ps,t] p) s3
 else(F.typ c s2).bind fun t s3=>.ok (.mk 3 x [ps,t] p) s3
theorem B1(E:co)(F:fJ)(hF:oy E F)(p:Int)(w:World)(s:St)(h:aR E w s)(h1:iq F p E.c s≠.out):
  Calls Tryz.prog 89 #[E.R,.int .i64 p] w (mK E w (iq F p E.c s)):=by
 generalize hres:iq F p E.c s=res at *;have hn:=hid (show(cG E.c s).bind (fun x s1=>(eI F E.c s1).bind fun ps s2=>nm F p x ps E.c s2)=res from hres);have ho:=hid h1;have g6:=h.lt;have hm:=(aD.refl h).alloc (.cells bD 24);have ja:=au.new w 24 bD;clear hres h1;(go_enter Tryz.func89,Tryz.ntmps89);(go_wp2_with fail);by_cases hN:(ar E.c s.at_).kind=1
 case neg=>refine(mQ E s _ hm.rd hN).mono ?_;rintro e w6⟨rfl,jg⟩;unfold al;exact⟨rfl,ah (by rw[<-hn.out,cG,gA hN];rfl) hm.gr (ak _ jg)⟩
 have HE:=hid (show(eI F E.c (adv s)).bind (fun ps s2=>nm F p (ar E.c s.at_).text ps E.c s2)=res by rw[<-hn.out,cG,gE hN];rfl);refine(lE E s _ hm.rd hN).mono ?_;rintro e w1⟨rfl,hw⟩;have hz:=ja.grown hw.gr;have hl:=hm.trans hw;have je:=hz.lt;generalize(ar E.c s.at_).text=tx at *;clear hn hN ja hm hw;(go_wp2_with fail);cases I:eI F E.c (adv s)with
 |out=>exact absurd HE.out.symm (by rw[I];exact ho.out)
 |fail q=>refine(nR E F hF _ (adv s) hl.rd (by rw[I];exact nofun)).mono ?_;rw[I];rintro e w2⟨rfl,jf⟩;unfold al;exact⟨rfl,ah (by rw[<-HE.out,I];rfl) hl.gr jf⟩
 |ok ps s2=>
  have HT:Hid (nm F p tx ps E.c s2=res):=hid (by rw[<-HE.out,I];rfl);refine(nR E F hF _ (adv s) hl.rd (by rw[I];exact nofun)).mono ?_;rw[I];rintro e w2⟨⟨v,rfl,hv⟩,hp⟩;obtain⟨A,cp,rfl,hC⟩:=hv.toC;have h8:=hz.grown hp.gr;have h3:=hl.trans hp;have jm:w1.heap.size<=w2.heap.size:=hp.gr.size;clear I HE hp hl hz;(go_wp2_with fail);refine(aN _ _ _ _ _ ⟨_,_,_,rfl⟩).mono ?_;rintro e w3⟨rfl,hi⟩;have h5:=(au.new w2 24 (nv ps A cp)).below hi (by simp);have h7:=(h8.alloc _).below hi (by simp;omega);have h2:=(h3.alloc _).step hi;(have jl:w2.heap.size+1<=w3.heap.size:=by have:=hi.size;simp at this;omega);have jc:iH (w.heap.size+1) (fun b=>b=w3.heap.size) w3 (.slice (some ⟨w2,0,none⟩) 1 1) [ps]:=
   iH.one (S:=w.heap.size+1) h5 (by omega) rfl (hC.mono fun b hb _=>by omega) (d5 _)
    (fun b _ hlt=>(hi.block b (by simp;omega)).trans (gW w2 _ b hlt)) (fun b _ hb=>by omega) (by omega)
  clear hi h5 h8 h3 hC hv;(go_wp2_with fail);have h4:=au.new w3 24 #[.int .i64 3,.string tx,.slice (some ⟨w2,0,none⟩) 1 1,.int .i64 p];have h6:=h7.alloc (.cells #[.int .i64 3,.string tx,.slice (some ⟨w2,0,none⟩) 1 1,.int .i64 p] 24);have hy:=h2.alloc (.cells #[.int .i64 3,.string tx,.slice (some ⟨w2,0,none⟩) 1 1,.int .i64 p] 24);have jb:=jc.kept (((am.refl _ w3).alloc (.cells #[.int .i64 3,.string tx,.slice (some ⟨w2,0,none⟩) 1 1,.int .i64 p] 24)));(have jk:w3.heap.size+1<=(w3.alloc (.cells #[.int .i64 3,.string tx,.slice (some ⟨w2,0,none⟩) 1 1,.int .i64 p] 24)).heap.size:=by simp);refine(bL E s2 _ hy.rd).mono ?_;unfold it;rintro e w5⟨rfl,hh⟩;have hq:=h4.below hh (by simp);have ht:=h6.below hh (by simp;omega);have hu:=jb.kept (am.of_below hh (fun b _ hlt=>hlt));have hj:=hy.step hh;have jj:=hh.size;generalize(w3.alloc (.cells #[.int .i64 3,.string tx,.slice (some ⟨w2,0,none⟩) 1 1,.int .i64 p] 24))=w4 at *;generalize hL:w3.heap.size=L at *;generalize hK:w2.heap.size=K at *;(have ji:w.heap.size+1<L:=by omega);clear jc h7 h2 h4 h6 jb hy hh;(go_wp2_with fail);cases gp:aP E.c s2 ⟨#[61]⟩with
  |true=>
   have HA:=hid (show(F.typ E.c (adv s2)).bind (fun t s3=>.ok (.mk 4 tx [ps,t] p) s3)=res by rw[<-HT.out,nm,gE gp]);refine(bi E s2 _ _ hj.rd gp).mono ?_;rintro e w6⟨rfl,hf⟩;have gx:=hq.grown hf.gr;have g2:=ht.grown hf.gr;have g5:=hu.grown hf.gr (by omega);have gu:=hj.trans hf;have jd:=hf.gr.size;clear hq ht hu hj hf;clear HT gp;obtain⟨x0,x1,x2,x3,y0,y1,y2,y3⟩:=ag gx;(go_wp2_with fail);(have N:au (w6.setCell ⟨L,0,none⟩ (.int .i64 4)) L 24 #[.int .i64 4,.string tx,.slice (some ⟨K,0,none⟩) 1 1,.int .i64 p]:=by simpa using gx.set_ 0 (.int .i64 4));have ge:=g2.far (p:=⟨L,0,none⟩) (by show w.heap.size≠L;omega) (.int .i64 4);have gq:=g5.kept ((am.refl _ _).setCell (p:=⟨L,0,none⟩) (fun hX=>hX.2 rfl) (.int .i64 4));have gn:=gu.own (p:=⟨L,0,none⟩) (by show w.heap.size<=L;omega) (by show E.R<L;omega) (.int .i64 4);(have gv:w6.heap.size<=(w6.setCell ⟨L,0,none⟩ (.int .i64 4)).heap.size:=by simp);clear x0 x1 x2 x3 y0 y1 y2 y3 gx g2 g5 gu;generalize w6.setCell ⟨L,0,none⟩ (.int .i64 4)=w8 at *;have gd:=N;have g1:=ge;have gl:=gq;have M:=gn;clear N ge gq gn;have ga:=gd.lt;(have gh:E.R<w.heap.size+1:=by omega);(have gz:w.heap.size+1<=w8.heap.size:=by omega);obtain⟨x0,x1,x2,x3,y0,y1,y2,y3⟩:=ag gd;cases I:F.typ E.c (adv s2)with
   |out=>exact absurd HA.out.symm (by rw[I];exact ho.out)
   |fail q=>have HF:Hid (res=.fail q):=hid (by rw[<-HA.out,I];rfl);(go_wp2_with fail);let SS:World->Prop:=fun w'=>w'.cell? ⟨L,2,none⟩=some (.slice (some ⟨K,0,none⟩) 1 1);have g4:SS w8.drew:=x2;(refine gZ (S:=SS) (by kernel_rfl) g4 ?_;intro O;refine dL 0 O ?_;refine dL 1 O ?_;refine dL 2 O ?_;refine tM 3 fun K hK=>?_;go_simp);refine(hF.typ _ _ M.drew.rd (by rw[I];exact nofun)).mono ?_;rw[I];rintro e w7⟨rfl,g0⟩;unfold al;exact⟨rfl,ah HF.out M.drew.gr g0⟩
   |ok n2 s4=>
    have HF:Hid (res=.ok (.mk 4 tx [ps,n2] p) s4):=hid (by rw[<-HA.out,I];rfl);have HC:=hid (fun W(hr:aR E W (adv s2))=>hF.typ W _ hr (by rw[I];exact nofun));rw[I]at HC;clear HA I;(go_wp2_with fail);go_region_law (first
     |(refine f6 (by rfl) (.tmp 29) (.tmp 32) (by rfl) E s4 (w.heap.size+1) w8.heap.size (fun b=>b=L) w w7 (.slice (some ⟨K,0,none⟩) 1 1) [ps] n2 A7 c7 (by rfl) (by rfl) gq gn (jE _) gh gz gv (fun b hb=>by rw[hb];exact ga) (fun g hg=>(gl.lt g hg).2) (by simp) g3 ?_;intro g c w9 J;have gj:au w9 L 24 #[.int .i64 4,.string tx,.slice (some ⟨K,0,none⟩) 1 1,.int .i64 p]:=(J.old L gb (.inl rfl)).trans N;obtain⟨v0,v1,v2,v3,f0,f1,f2,f3⟩:=ag gj)
     |(go_simp;(go_at_call 131);refine(HC.out _ M.drew.rd).mono ?_;rintro e w7⟨⟨v,rfl,gy⟩,D⟩;obtain⟨A7,c7,rfl,g3⟩:=gy.toC;have N:=gd.drew.grown D.gr;have ge:=g1.drew.grown D.gr;have gq:=(gl.kept ((am.refl _ _).drew)).grown D.gr gh;have gn:=M.drew.trans D;have gv:w8.heap.size<=w7.heap.size:=D.gr.size;have gb:=N.lt;obtain⟨z0,z1,z2,z3,_,_,_,_⟩:=ag N))
    all_goals have gi:=J.mov.own (p:=⟨L,2,none⟩) (by show w.heap.size<=L;omega) (by show E.R<L;omega) (.slice (some ⟨g,0,none⟩) 2 c);(have gk:au (w9.setCell ⟨L,2,none⟩ (.slice (some ⟨g,0,none⟩) 2 c)) L 24 #[.int .i64 4,.string tx,.slice (some ⟨g,0,none⟩) 2 c,.int .i64 p]:=by simpa using gj.set_ 2 (.slice (some ⟨g,0,none⟩) 2 c));have U:=au.far (show au w9 w.heap.size 24 bD from(J.old w.heap.size (by have:=ge.lt;omega) (.inr (by omega))).trans ge) (p:=⟨L,2,none⟩) (by show w.heap.size≠L;omega) (.slice (some ⟨g,0,none⟩) 2 c);have gm:=J.own.kept ((am.refl _ _).setCell (p:=⟨L,2,none⟩) (fun hX=>hX.2 rfl) (.slice (some ⟨g,0,none⟩) 2 c));clear v0 v1 v2 v3 f0 f1 f2 f3 z0 z1 z2 z3 x0 x1 x2 x3 y0 y1 y2 y3;obtain⟨x0,x1,x2,x3,_,_,_,_⟩:=ag gk;obtain⟨d0,d1,d2,d3,e0,e1,e2,e3⟩:=ag U;generalize w9.setCell ⟨L,2,none⟩ (.slice (some ⟨g,0,none⟩) 2 c)=w10 at *;(go_wp2_with fail);refine aB HF.out (aq.of_slice gm.values 4 tx p) gi U (d5 _) g6 ?_ rfl (by rfl) rfl;rintro b⟨hb,_⟩;constructor<;>omega
  |false=>
   refine(bA E s2 _ _ hj.rd gp).mono ?_;rintro e w6⟨rfl,he⟩;have gx:=hq.bl he.bel;have g2:=ht.bl he.bel;have g5:=hu.kept (am.of_below he.bel (fun b _ hlt=>hlt));have gu:=hj.trans he.moved;have jd:=he.bel.size;clear hq ht hu hj he;(go_wp2_with fail);cases gw:aP E.c s2 ⟨#[115,116,114,117,99,116]⟩with
   |true=>
    have HA:=hid (show(ip F (av E.c s2) E.c (adv s2)).bind (fun t s3=>.ok (.mk 3 tx [ps,t] p) s3)=res by rw[<-HT.out,nm,gA (by rw[gp];decide),gE gw]);refine(bi E s2 _ _ gu.rd gw).mono ?_;rintro e w8⟨rfl,gg⟩;have gd:=gx.grown gg.gr;have g1:=g2.grown gg.gr;have gl:=g5.grown gg.gr (by omega);have M:=gu.trans gg;have h0:=gg.gr.size;clear gx g2 g5 gu gg;clear HT gp gw;(go_wp2_with fail);have ga:=gd.lt;(have gh:E.R<w.heap.size+1:=by omega);(have gz:w.heap.size+1<=w8.heap.size:=by omega);obtain⟨x0,x1,x2,x3,y0,y1,y2,y3⟩:=ag gd;cases I:ip F (av E.c s2) E.c (adv s2)with
    |out=>exact absurd HA.out.symm (by rw[I];exact ho.out)
    |fail q=>have HF:Hid (res=.fail q):=hid (by rw[<-HA.out,I];rfl);(go_wp2_with fail);let SS:World->Prop:=fun w'=>w'.cell? ⟨L,2,none⟩=some (.slice (some ⟨K,0,none⟩) 1 1);have g4:SS w8.drew:=x2;(refine gZ (S:=SS) (by kernel_rfl) g4 ?_;intro O;refine dL 0 O ?_;refine dL 1 O ?_;refine dL 2 O ?_;refine dL 3 O ?_;refine tM 4 fun K hK=>?_;go_simp);refine(wU E F hF (av E.c s2) _ _ M.drew.rd (by rw[I];exact nofun)).mono ?_;rw[I];rintro e w7⟨rfl,g0⟩;unfold al;exact⟨rfl,ah HF.out M.drew.gr g0⟩
    |ok n2 s4=>
     have HF:Hid (res=.ok (.mk 3 tx [ps,n2] p) s4):=hid (by rw[<-HA.out,I];rfl);have HC:=hid (fun W(hr:aR E W (adv s2))=>wU E F hF (av E.c s2) W _ hr (by rw[I];exact nofun));rw[I]at HC;clear HA I;(go_wp2_with fail);go_region_law (first
      |(refine f6 (by rfl) (.tmp 39) (.tmp 43) (by rfl) E s4 (w.heap.size+1) w8.heap.size (fun b=>b=L) w w7 (.slice (some ⟨K,0,none⟩) 1 1) [ps] n2 A7 c7 (by rfl) (by rfl) gq gn (jE _) gh gz gv (fun b hb=>by rw[hb];exact ga) (fun g hg=>(gl.lt g hg).2) (by simp) g3 ?_;intro g c w9 J;have gj:au w9 L 24 #[.int .i64 3,.string tx,.slice (some ⟨K,0,none⟩) 1 1,.int .i64 p]:=(J.old L gb (.inl rfl)).trans N;obtain⟨v0,v1,v2,v3,f0,f1,f2,f3⟩:=ag gj)
      |(go_simp;(go_at_call 136);refine(HC.out _ M.drew.rd).mono ?_;rintro e w7⟨⟨v,rfl,gy⟩,D⟩;obtain⟨A7,c7,rfl,g3⟩:=gy.toC;have N:=gd.drew.grown D.gr;have ge:=g1.drew.grown D.gr;have gq:=(gl.kept ((am.refl _ _).drew)).grown D.gr gh;have gn:=M.drew.trans D;have gv:w8.heap.size<=w7.heap.size:=D.gr.size;have gb:=N.lt;obtain⟨z0,z1,z2,z3,_,_,_,_⟩:=ag N))
     all_goals have gi:=J.mov.own (p:=⟨L,2,none⟩) (by show w.heap.size<=L;omega) (by show E.R<L;omega) (.slice (some ⟨g,0,none⟩) 2 c);(have gk:au (w9.setCell ⟨L,2,none⟩ (.slice (some ⟨g,0,none⟩) 2 c)) L 24 #[.int .i64 3,.string tx,.slice (some ⟨g,0,none⟩) 2 c,.int .i64 p]:=by simpa using gj.set_ 2 (.slice (some ⟨g,0,none⟩) 2 c));have U:=au.far (show au w9 w.heap.size 24 bD from(J.old w.heap.size (by have:=ge.lt;omega) (.inr (by omega))).trans ge) (p:=⟨L,2,none⟩) (by show w.heap.size≠L;omega) (.slice (some ⟨g,0,none⟩) 2 c);have gm:=J.own.kept ((am.refl _ _).setCell (p:=⟨L,2,none⟩) (fun hX=>hX.2 rfl) (.slice (some ⟨g,0,none⟩) 2 c));clear v0 v1 v2 v3 f0 f1 f2 f3 z0 z1 z2 z3 x0 x1 x2 x3 y0 y1 y2 y3;obtain⟨x0,x1,x2,x3,_,_,_,_⟩:=ag gk;obtain⟨d0,d1,d2,d3,e0,e1,e2,e3⟩:=ag U;generalize w9.setCell ⟨L,2,none⟩ (.slice (some ⟨g,0,none⟩) 2 c)=w10 at *;(go_wp2_with fail);refine aB HF.out (aq.of_slice gm.values 3 tx p) gi U (d5 _) g6 ?_ rfl (by rfl) rfl;rintro b⟨hb,_⟩;constructor<;>omega
   |false=>
    refine(bA E s2 _ _ gu.rd gw).mono ?_;rintro e w17⟨rfl,gs⟩;have g7:=gx.bl gs.bel;have g8:=g2.bl gs.bel;have g9:=g5.kept (am.of_below gs.bel (fun b _ hlt=>hlt));have gt:=gu.trans gs.moved;have jh:=gs.bel.size;clear gx g2 g5 gu gs;(go_wp2_with fail);cases hk:aP E.c s2 ⟨#[105,110,116,101,114,102,97,99,101]⟩with
    |true=>
     have HA:=hid (show(fV F (av E.c s2) E.c (adv s2)).bind (fun t s3=>.ok (.mk 3 tx [ps,t] p) s3)=res by rw[<-HT.out,nm,gA (by rw[gp];decide),gA (by rw[gw];decide),gE hk]);refine(bi E s2 _ _ gt.rd hk).mono ?_;rintro e w8⟨rfl,gg⟩;have gd:=g7.grown gg.gr;have g1:=g8.grown gg.gr;have gl:=g9.grown gg.gr (by omega);have M:=gt.trans gg;have h0:=gg.gr.size;clear g7 g8 g9 gt gg;clear HT gp gw hk;(go_wp2_with fail);have ga:=gd.lt;(have gh:E.R<w.heap.size+1:=by omega);(have gz:w.heap.size+1<=w8.heap.size:=by omega);obtain⟨x0,x1,x2,x3,y0,y1,y2,y3⟩:=ag gd;cases I:fV F (av E.c s2) E.c (adv s2)with
     |out=>exact absurd HA.out.symm (by rw[I];exact ho.out)
     |fail q=>have HF:Hid (res=.fail q):=hid (by rw[<-HA.out,I];rfl);(go_wp2_with fail);let SS:World->Prop:=fun w'=>w'.cell? ⟨L,2,none⟩=some (.slice (some ⟨K,0,none⟩) 1 1);have g4:SS w8.drew:=x2;(refine gZ (S:=SS) (by kernel_rfl) g4 ?_;intro O;refine dL 0 O ?_;refine dL 1 O ?_;refine dL 2 O ?_;refine dL 3 O ?_;refine tM 4 fun K hK=>?_;go_simp);refine(tO E F hF (av E.c s2) _ _ M.drew.rd (by rw[I];exact nofun)).mono ?_;rw[I];rintro e w7⟨rfl,g0⟩;unfold al;exact⟨rfl,ah HF.out M.drew.gr g0⟩
     |ok n2 s4=>
      have HF:Hid (res=.ok (.mk 3 tx [ps,n2] p) s4):=hid (by rw[<-HA.out,I];rfl);have HC:=hid (fun W(hr:aR E W (adv s2))=>tO E F hF (av E.c s2) W _ hr (by rw[I];exact nofun));rw[I]at HC;clear HA I;(go_wp2_with fail);go_region_law (first
       |(refine f6 (by rfl) (.tmp 50) (.tmp 54) (by rfl) E s4 (w.heap.size+1) w8.heap.size (fun b=>b=L) w w7 (.slice (some ⟨K,0,none⟩) 1 1) [ps] n2 A7 c7 (by rfl) (by rfl) gq gn (jE _) gh gz gv (fun b hb=>by rw[hb];exact ga) (fun g hg=>(gl.lt g hg).2) (by simp) g3 ?_;intro g c w9 J;have gj:au w9 L 24 #[.int .i64 3,.string tx,.slice (some ⟨K,0,none⟩) 1 1,.int .i64 p]:=(J.old L gb (.inl rfl)).trans N;obtain⟨v0,v1,v2,v3,f0,f1,f2,f3⟩:=ag gj)
       |(go_simp;(go_at_call 137);refine(HC.out _ M.drew.rd).mono ?_;rintro e w7⟨⟨v,rfl,gy⟩,D⟩;obtain⟨A7,c7,rfl,g3⟩:=gy.toC;have N:=gd.drew.grown D.gr;have ge:=g1.drew.grown D.gr;have gq:=(gl.kept ((am.refl _ _).drew)).grown D.gr gh;have gn:=M.drew.trans D;have gv:w8.heap.size<=w7.heap.size:=D.gr.size;have gb:=N.lt;obtain⟨z0,z1,z2,z3,_,_,_,_⟩:=ag N))
      all_goals have gi:=J.mov.own (p:=⟨L,2,none⟩) (by show w.heap.size<=L;omega) (by show E.R<L;omega) (.slice (some ⟨g,0,none⟩) 2 c);(have gk:au (w9.setCell ⟨L,2,none⟩ (.slice (some ⟨g,0,none⟩) 2 c)) L 24 #[.int .i64 3,.string tx,.slice (some ⟨g,0,none⟩) 2 c,.int .i64 p]:=by simpa using gj.set_ 2 (.slice (some ⟨g,0,none⟩) 2 c));have U:=au.far (show au w9 w.heap.size 24 bD from(J.old w.heap.size (by have:=ge.lt;omega) (.inr (by omega))).trans ge) (p:=⟨L,2,none⟩) (by show w.heap.size≠L;omega) (.slice (some ⟨g,0,none⟩) 2 c);have gm:=J.own.kept ((am.refl _ _).setCell (p:=⟨L,2,none⟩) (fun hX=>hX.2 rfl) (.slice (some ⟨g,0,none⟩) 2 c));clear v0 v1 v2 v3 f0 f1 f2 f3 z0 z1 z2 z3 x0 x1 x2 x3 y0 y1 y2 y3;obtain⟨x0,x1,x2,x3,_,_,_,_⟩:=ag gk;obtain⟨d0,d1,d2,d3,e0,e1,e2,e3⟩:=ag U;generalize w9.setCell ⟨L,2,none⟩ (.slice (some ⟨g,0,none⟩) 2 c)=w10 at *;(go_wp2_with fail);refine aB HF.out (aq.of_slice gm.values 3 tx p) gi U (d5 _) g6 ?_ rfl (by rfl) rfl;rintro b⟨hb,_⟩;constructor<;>omega
    |false=>
     have HA:=hid (show(F.typ E.c s2).bind (fun t s3=>.ok (.mk 3 tx [ps,t] p) s3)=res by rw[<-HT.out,nm,gA (by rw[gp];decide),gA (by rw[gw];decide),gA (by rw[hk];decide)]);refine(bA E s2 _ _ gt.rd hk).mono ?_;rintro e w8⟨rfl,ha⟩;have gd:=g7.bl ha.bel;have g1:=g8.bl ha.bel;have gl:=g9.kept (am.of_below ha.bel (fun b _ hlt=>hlt));have M:=gt.trans ha.moved;have h0:=ha.bel.size;clear g7 g8 g9 gt ha;(go_wp2_with fail);clear HT gp gw hk;have ga:=gd.lt;(have gh:E.R<w.heap.size+1:=by omega);(have gz:w.heap.size+1<=w8.heap.size:=by omega);obtain⟨x0,x1,x2,x3,y0,y1,y2,y3⟩:=ag gd;cases I:F.typ E.c s2 with
     |out=>exact absurd HA.out.symm (by rw[I];exact ho.out)
     |fail q=>have HF:Hid (res=.fail q):=hid (by rw[<-HA.out,I];rfl);(go_wp2_with fail);let SS:World->Prop:=fun w'=>w'.cell? ⟨L,2,none⟩=some (.slice (some ⟨K,0,none⟩) 1 1);have g4:SS w8.drew:=x2;(refine gZ (S:=SS) (by kernel_rfl) g4 ?_;intro O;refine dL 0 O ?_;refine dL 1 O ?_;refine dL 2 O ?_;refine tM 3 fun K hK=>?_;go_simp);refine(hF.typ _ _ M.drew.rd (by rw[I];exact nofun)).mono ?_;rw[I];rintro e w7⟨rfl,g0⟩;unfold al;exact⟨rfl,ah HF.out M.drew.gr g0⟩
     |ok n2 s4=>
      have HF:Hid (res=.ok (.mk 3 tx [ps,n2] p) s4):=hid (by rw[<-HA.out,I];rfl);have HC:=hid (fun W(hr:aR E W s2)=>hF.typ W _ hr (by rw[I];exact nofun));rw[I]at HC;clear HA I;(go_wp2_with fail);go_region_law (first
       |(refine f6 (by rfl) (.tmp 18) (.tmp 21) (by rfl) E s4 (w.heap.size+1) w8.heap.size (fun b=>b=L) w w7 (.slice (some ⟨K,0,none⟩) 1 1) [ps] n2 A7 c7 (by rfl) (by rfl) gq gn (jE _) gh gz gv (fun b hb=>by rw[hb];exact ga) (fun g hg=>(gl.lt g hg).2) (by simp) g3 ?_;intro g c w9 J;have gj:au w9 L 24 #[.int .i64 3,.string tx,.slice (some ⟨K,0,none⟩) 1 1,.int .i64 p]:=(J.old L gb (.inl rfl)).trans N;obtain⟨v0,v1,v2,v3,f0,f1,f2,f3⟩:=ag gj)
       |(go_simp;(go_at_call 131);refine(HC.out _ M.drew.rd).mono ?_;rintro e w7⟨⟨v,rfl,gy⟩,D⟩;obtain⟨A7,c7,rfl,g3⟩:=gy.toC;have N:=gd.drew.grown D.gr;have ge:=g1.drew.grown D.gr;have gq:=(gl.kept ((am.refl _ _).drew)).grown D.gr gh;have gn:=M.drew.trans D;have gv:w8.heap.size<=w7.heap.size:=D.gr.size;have gb:=N.lt;obtain⟨z0,z1,z2,z3,_,_,_,_⟩:=ag N))
      all_goals have gi:=J.mov.own (p:=⟨L,2,none⟩) (by show w.heap.size<=L;omega) (by show E.R<L;omega) (.slice (some ⟨g,0,none⟩) 2 c);(have gk:au (w9.setCell ⟨L,2,none⟩ (.slice (some ⟨g,0,none⟩) 2 c)) L 24 #[.int .i64 3,.string tx,.slice (some ⟨g,0,none⟩) 2 c,.int .i64 p]:=by simpa using gj.set_ 2 (.slice (some ⟨g,0,none⟩) 2 c));have U:=au.far (show au w9 w.heap.size 24 bD from(J.old w.heap.size (by have:=ge.lt;omega) (.inr (by omega))).trans ge) (p:=⟨L,2,none⟩) (by show w.heap.size≠L;omega) (.slice (some ⟨g,0,none⟩) 2 c);have gm:=J.own.kept ((am.refl _ _).setCell (p:=⟨L,2,none⟩) (fun hX=>hX.2 rfl) (.slice (some ⟨g,0,none⟩) 2 c));clear v0 v1 v2 v3 f0 f1 f2 f3 z0 z1 z2 z3 x0 x1 x2 x3 y0 y1 y2 y3;obtain⟨x0,x1,x2,x3,_,_,_,_⟩:=ag gk;obtain⟨d0,d1,d2,d3,e0,e1,e2,e3⟩:=ag U;generalize w9.setCell ⟨L,2,none⟩ (.slice (some ⟨g,0,none⟩) 2 c)=w10 at *;(go_wp2_with fail);refine aB HF.out (aq.of_slice gm.values 3 tx p) gi U (d5 _) g6 ?_ rfl (by rfl) rfl;rintro b⟨hb,_⟩;constructor<;>omega
end
section
open Go.RowKit Go.Lib Go.Proofs
abbrev bR(w:World)(v:Value)(n:Nd):Prop:=aq (fun _=>True) w v n
theorem aq.wide{X:Nat->Prop}{w:World}{v:Value}{n:Nd}(h:aq X w v n):bR w v n:=h.mono fun _ _ _=>trivial
theorem aq.below{X:Nat->Prop}{w w':World}{v:Value}{n:Nd}(h:aq X w v n)(hb:Below w w w'):aq X w' v n:=h.keep fun b _ hlt=>hb.block b hlt
theorem dG.below{X:Nat->Prop}{w w':World}{v:Value}{l:List Nd}(h:dG X w v l)(hb:Below w w w'):dG X w' v l:=by obtain⟨A,cap,xs,e,J,I,D⟩:=h;exact⟨A,cap,xs,e,J,I.keep fun b _ hlt=>hb.block b hlt,D.keep fun b _ hlt=>hb.block b hlt⟩
abbrev nh(w:World)(v:Value)(l:List Nd):Prop:=dG (fun _=>True) w v l
theorem lH(a b:Int):(a==b)=decide (a=b):=by rw[qb];simp
def dk(w:World):Prop:=∃m:Int,w.cell? ⟨2,0,none⟩=some (.int .i64 m)
theorem dk.below{w w':World}(h:dk w)(hb:Below w w w'):dk w':=by obtain⟨m,h⟩:=h;exact⟨m,(hb.cell (gX w _ h)).trans h⟩
structure Fv where
 k:FuncId
 cap:Array Value
def Fv.val(f:Fv):Value:=.func (.func f.k) #[] f.cap
structure oW(d:Nat)(P:Nd->Bool)(f:Fv)(w0:World):Prop where
 enter:∀a w,(callFunc f.k a).run Tryz.prog w=.ok (.enter f.k a) w
 out:∀(w:World)(v:Value)(n:Nd),Below w0 w0 w->bR w v n->lW d n->Calls Tryz.prog f.k (#[v]++f.cap) w fun e w'=>e=.returned (.bool (P n))/\Below w w w'
theorem oW.below{d:Nat}{P:Nd->Bool}{f:Fv}{w0 w1:World}(h:oW d P f w0)(hb:Below w0 w0 w1):oW d P f w1:=
 ⟨h.enter,fun w v n hw=>h.out w v n (a8 hb hw)⟩
structure CX(P:ByteArray->Bool)(f:Fv)(w0:World):Prop where
 enter:∀a w,(callFunc f.k a).run Tryz.prog w=.ok (.enter f.k a) w
 out:∀(w:World)(s:ByteArray),Below w0 w0 w->s.size<=1000000000->Calls Tryz.prog f.k (#[.string s]++f.cap) w fun e w'=>e=.returned (.bool (P s))/\Below w w w'
theorem CX.below{P:ByteArray->Bool}{f:Fv}{w0 w1:World}(h:CX P f w0)(hb:Below w0 w0 w1):CX P f w1:=
 ⟨h.enter,fun w s hw=>h.out w s (a8 hb hw)⟩
def iU(d:Nat)(P:Nd->Bool)(f:FuncId):Prop:=
 ∀(w:World)(v:Value)(n:Nd),dk w->bR w v n->lW d n->Calls Tryz.prog f #[v] w fun e w'=>e=.returned (.bool (P n))/\Below w w w'
theorem iU.so{d:Nat}{P:Nd->Bool}{f:FuncId}(h:iU d P f)(D:∀a w,(callFunc f a).run Tryz.prog w=.ok (.enter f a) w)(w0:World)(hT:dk w0):oW d P ⟨f,#[]⟩ w0:=
 ⟨D,fun w v n hb hv hd=>h w v n (hT.below hb) hv hd⟩
theorem iU.le{d d':Nat}{P:Nd->Bool}{f:FuncId}(h:iU d P f)(hd:∀n,lW d' n->lW d n):iU d' P f:=fun w v n hT hv hn=>h w v n hT hv (hd n hn)
def lL(w:World)(K o:Nat)(a b c d:Value):World:=(((w.setCell ⟨K,o,none⟩ a).setCell ⟨K,o+1,none⟩ b).setCell ⟨K,o+2,none⟩ c).setCell ⟨K,o+3,none⟩ d
section
variable {E:co} {s:St} {w wk:World} {K o:Nat} {a b c d:Value}
theorem EX:(lL wk K o a b c d).heap.size=wk.heap.size:=by simp[lL]
theorem nS(h:aD E s w wk)(D:w.heap.size<=K)(I:E.R<K)(a b c d:Value):aD E s w (lL wk K o a b c d):=
 (((h.own (p:=⟨K,o,none⟩) D I a).own (p:=⟨K,o+1,none⟩) D I b).own (p:=⟨K,o+2,none⟩) D I c).own (p:=⟨K,o+3,none⟩) D I d
theorem ig{X:Nat->Prop}(D:∀b,X b->b≠K):am X wk (lL wk K o a b c d):=
 ((((am.refl X wk).setCell (p:=⟨K,o,none⟩) (fun h=>D K h rfl) a).setCell (p:=⟨K,o+1,none⟩) (fun h=>D K h rfl) b).setCell (p:=⟨K,o+2,none⟩) (fun h=>D K h rfl) c).setCell (p:=⟨K,o+3,none⟩) (fun h=>D K h rfl) d
theorem ro{g:Nat}{t:TypeId}{cs:Array Value}(h:au wk g t cs)(D:g≠K):au (lL wk K o a b c d) g t cs:=
 (((h.far (p:=⟨K,o,none⟩) D a).far (p:=⟨K,o+1,none⟩) D b).far (p:=⟨K,o+2,none⟩) D c).far (p:=⟨K,o+3,none⟩) D d
theorem l8{t:TypeId}{cs:Array Value}(h:au wk K t cs):au (lL wk K o a b c d) K t ((((cs.setIfInBounds o a).setIfInBounds (o+1) b).setIfInBounds (o+2) c).setIfInBounds (o+3) d):=
 (((h.set_ o a).set_ (o+1) b).set_ (o+2) c).set_ (o+3) d
end
end
section
open Go.RowKit Go.Lib Go.Proofs
attribute [local go_sem ↓] Go.wp_at_zero Go.wp_at_succ
def bo(c:Int):Bool:=c==95||((decide (97<=c)&&decide (c<=122))||(decide (65<=c)&&decide (c<=90)))
def aW(c:Int):Bool:=decide (48<=c)&&decide (c<=57)
theorem fg(c:Int)(w:World):Calls Tryz.prog 97 #[.int .i32 c] w fun e w'=>e=.returned (.bool (bo c))/\w=w':=by unfold bo;cases N:(c==95)<;>cases M:decide (97<=c)<;>cases J:decide (c<=122)<;>cases I:decide (65<=c)<;>cases D:decide (c<=90);all_goals(go_enter Tryz.func97,Tryz.ntmps97);(go_wp2_with fail);go_ret;exact⟨rfl,rfl⟩
theorem lg(c:Int)(w:World):Calls Tryz.prog 100 #[.int .i32 c] w fun e w'=>e=.returned (.bool (aW c))/\w=w':=by unfold aW;cases I:decide (48<=c)<;>cases D:decide (c<=57);all_goals(go_enter Tryz.func100,Tryz.ntmps100);(go_wp2_with fail);go_ret;exact⟨rfl,rfl⟩
theorem cV{s x:ByteArray}(h:¬ s=x):(s.toList==x.data.toList)=false:=by rw[<-qJ,dF];simpa using h
theorem CY(s:ByteArray)(w:World):Calls Tryz.prog 102 #[.string s] w fun e w'=>e=.returned (.int .i64 (bZ s))/\w=w':=by
 by_cases O:s=(⟨#[98,114,101,97,107]⟩:BA)
 ·subst O;rw[show bZ ⟨#[98,114,101,97,107]⟩=1 by decide +kernel];(go_enter Tryz.func102,Tryz.ntmps102);(go_wp2_with fail);go_ret;exact⟨rfl,rfl⟩
 by_cases h:s=(⟨#[99,111,110,116,105,110,117,101]⟩:BA)
 ·subst h;rw[show bZ ⟨#[99,111,110,116,105,110,117,101]⟩=1 by decide +kernel];clear O;(go_enter Tryz.func102,Tryz.ntmps102);(go_wp2_with fail);go_ret;exact⟨rfl,rfl⟩
 by_cases h2:s=(⟨#[101,108,115,101]⟩:BA)
 ·subst h2;rw[show bZ ⟨#[101,108,115,101]⟩=1 by decide +kernel];clear O h;(go_enter Tryz.func102,Tryz.ntmps102);(go_wp2_with fail);go_ret;exact⟨rfl,rfl⟩
 by_cases h3:s=(⟨#[102,111,114]⟩:BA)
 ·subst h3;rw[show bZ ⟨#[102,111,114]⟩=1 by decide +kernel];clear O h h2;(go_enter Tryz.func102,Tryz.ntmps102);(go_wp2_with fail);go_ret;exact⟨rfl,rfl⟩
 by_cases h4:s=(⟨#[102,117,110,99]⟩:BA)
 ·subst h4;rw[show bZ ⟨#[102,117,110,99]⟩=1 by decide +kernel];clear O h h2 h3;(go_enter Tryz.func102,Tryz.ntmps102);(go_wp2_with fail);go_ret;exact⟨rfl,rfl⟩
 by_cases h5:s=(⟨#[105,102]⟩:BA)
 ·subst h5;rw[show bZ ⟨#[105,102]⟩=1 by decide +kernel];clear O h h2 h3 h4;(go_enter Tryz.func102,Tryz.ntmps102);(go_wp2_with fail);go_ret;exact⟨rfl,rfl⟩
 by_cases h6:s=(⟨#[105,109,112,111,114,116]⟩:BA)
 ·subst h6;rw[show bZ ⟨#[105,109,112,111,114,116]⟩=1 by decide +kernel];clear O h h2 h3 h4 h5;(go_enter Tryz.func102,Tryz.ntmps102);(go_wp2_with fail);go_ret;exact⟨rfl,rfl⟩
 by_cases h7:s=(⟨#[105,110,116,101,114,102,97,99,101]⟩:BA)
 ·subst h7;rw[show bZ ⟨#[105,110,116,101,114,102,97,99,101]⟩=1 by decide +kernel];clear O h h2 h3 h4 h5 h6;(go_enter Tryz.func102,Tryz.ntmps102);(go_wp2_with fail);go_ret;exact⟨rfl,rfl⟩
 by_cases h8:s=(⟨#[112,97,99,107,97,103,101]⟩:BA)
 ·subst h8;rw[show bZ ⟨#[112,97,99,107,97,103,101]⟩=1 by decide +kernel];clear O h h2 h3 h4 h5 h6 h7;(go_enter Tryz.func102,Tryz.ntmps102);(go_wp2_with fail);go_ret;exact⟨rfl,rfl⟩
 by_cases h9:s=(⟨#[114,97,110,103,101]⟩:BA)
 ·subst h9;rw[show bZ ⟨#[114,97,110,103,101]⟩=1 by decide +kernel];clear O h h2 h3 h4 h5 h6 h7 h8;(go_enter Tryz.func102,Tryz.ntmps102);(go_wp2_with fail);go_ret;exact⟨rfl,rfl⟩
 by_cases D:s=(⟨#[114,101,116,117,114,110]⟩:BA)
 ·subst D;rw[show bZ ⟨#[114,101,116,117,114,110]⟩=1 by decide +kernel];clear O h h2 h3 h4 h5 h6 h7 h8 h9;(go_enter Tryz.func102,Tryz.ntmps102);(go_wp2_with fail);go_ret;exact⟨rfl,rfl⟩
 by_cases I:s=(⟨#[115,116,114,117,99,116]⟩:BA)
 ·subst I;rw[show bZ ⟨#[115,116,114,117,99,116]⟩=1 by decide +kernel];clear O h h2 h3 h4 h5 h6 h7 h8 h9 D;(go_enter Tryz.func102,Tryz.ntmps102);(go_wp2_with fail);go_ret;exact⟨rfl,rfl⟩
 by_cases J:s=(⟨#[116,121,112,101]⟩:BA)
 ·subst J;rw[show bZ ⟨#[116,121,112,101]⟩=1 by decide +kernel];clear O h h2 h3 h4 h5 h6 h7 h8 h9 D I;(go_enter Tryz.func102,Tryz.ntmps102);(go_wp2_with fail);go_ret;exact⟨rfl,rfl⟩
 by_cases M:s=(⟨#[118,97,114]⟩:BA)
 ·subst M;rw[show bZ ⟨#[118,97,114]⟩=1 by decide +kernel];clear O h h2 h3 h4 h5 h6 h7 h8 h9 D I J;(go_enter Tryz.func102,Tryz.ntmps102);(go_wp2_with fail);go_ret;exact⟨rfl,rfl⟩
 by_cases N:s=(⟨#[99,97,115,101]⟩:BA)
 ·subst N;rw[show bZ ⟨#[99,97,115,101]⟩=2 by decide +kernel];clear O h h2 h3 h4 h5 h6 h7 h8 h9 D I J M;(go_enter Tryz.func102,Tryz.ntmps102);(go_wp2_with fail);go_ret;exact⟨rfl,rfl⟩
 by_cases U:s=(⟨#[99,104,97,110]⟩:BA)
 ·subst U;rw[show bZ ⟨#[99,104,97,110]⟩=2 by decide +kernel];clear O h h2 h3 h4 h5 h6 h7 h8 h9 D I J M N;(go_enter Tryz.func102,Tryz.ntmps102);(go_wp2_with fail);go_ret;exact⟨rfl,rfl⟩
 by_cases ga:s=(⟨#[99,111,110,115,116]⟩:BA)
 ·subst ga;rw[show bZ ⟨#[99,111,110,115,116]⟩=2 by decide +kernel];clear O h h2 h3 h4 h5 h6 h7 h8 h9 D I J M N U;(go_enter Tryz.func102,Tryz.ntmps102);(go_wp2_with fail);go_ret;exact⟨rfl,rfl⟩
 by_cases gb:s=(⟨#[100,101,102,97,117,108,116]⟩:BA)
 ·subst gb;rw[show bZ ⟨#[100,101,102,97,117,108,116]⟩=2 by decide +kernel];clear O h h2 h3 h4 h5 h6 h7 h8 h9 D I J M N U ga;(go_enter Tryz.func102,Tryz.ntmps102);(go_wp2_with fail);go_ret;exact⟨rfl,rfl⟩
 by_cases gd:s=(⟨#[100,101,102,101,114]⟩:BA)
 ·subst gd;rw[show bZ ⟨#[100,101,102,101,114]⟩=2 by decide +kernel];clear O h h2 h3 h4 h5 h6 h7 h8 h9 D I J M N U ga gb;(go_enter Tryz.func102,Tryz.ntmps102);(go_wp2_with fail);go_ret;exact⟨rfl,rfl⟩
 by_cases ge:s=(⟨#[102,97,108,108,116,104,114,111,117,103,104]⟩:BA)
 ·subst ge;rw[show bZ ⟨#[102,97,108,108,116,104,114,111,117,103,104]⟩=2 by decide +kernel];clear O h h2 h3 h4 h5 h6 h7 h8 h9 D I J M N U ga gb gd;(go_enter Tryz.func102,Tryz.ntmps102);(go_wp2_with fail);go_ret;exact⟨rfl,rfl⟩
 by_cases gg:s=(⟨#[103,111]⟩:BA)
 ·subst gg;rw[show bZ ⟨#[103,111]⟩=2 by decide +kernel];clear O h h2 h3 h4 h5 h6 h7 h8 h9 D I J M N U ga gb gd ge;(go_enter Tryz.func102,Tryz.ntmps102);(go_wp2_with fail);go_ret;exact⟨rfl,rfl⟩
 by_cases gh:s=(⟨#[103,111,116,111]⟩:BA)
 ·subst gh;rw[show bZ ⟨#[103,111,116,111]⟩=2 by decide +kernel];clear O h h2 h3 h4 h5 h6 h7 h8 h9 D I J M N U ga gb gd ge gg;(go_enter Tryz.func102,Tryz.ntmps102);(go_wp2_with fail);go_ret;exact⟨rfl,rfl⟩
 by_cases gi:s=(⟨#[109,97,112]⟩:BA)
 ·subst gi;rw[show bZ ⟨#[109,97,112]⟩=2 by decide +kernel];clear O h h2 h3 h4 h5 h6 h7 h8 h9 D I J M N U ga gb gd ge gg gh;(go_enter Tryz.func102,Tryz.ntmps102);(go_wp2_with fail);go_ret;exact⟨rfl,rfl⟩
 by_cases gj:s=(⟨#[115,101,108,101,99,116]⟩:BA)
 ·subst gj;rw[show bZ ⟨#[115,101,108,101,99,116]⟩=2 by decide +kernel];clear O h h2 h3 h4 h5 h6 h7 h8 h9 D I J M N U ga gb gd ge gg gh gi;(go_enter Tryz.func102,Tryz.ntmps102);(go_wp2_with fail);go_ret;exact⟨rfl,rfl⟩
 by_cases gk:s=(⟨#[115,119,105,116,99,104]⟩:BA)
 ·subst gk;rw[show bZ ⟨#[115,119,105,116,99,104]⟩=2 by decide +kernel];clear O h h2 h3 h4 h5 h6 h7 h8 h9 D I J M N U ga gb gd ge gg gh gi gj;(go_enter Tryz.func102,Tryz.ntmps102);(go_wp2_with fail);go_ret;exact⟨rfl,rfl⟩
 (have hz:bZ s=0:=by simp only[bZ,Lq,Lr,List.any_cons,List.any_nil,O,h,h2,h3,h4,h5,h6,h7,h8,h9,D,I,J,M,N,U,ga,gb,gd,ge,gg,gh,gi,gj,gk,decide_false,Bool.or_false,gT,jY]);have q0:(s.toList==[98,114,101,97,107])=false:=cV O;have q1:(s.toList==[99,111,110,116,105,110,117,101])=false:=cV h;have q2:(s.toList==[101,108,115,101])=false:=cV h2;have q3:(s.toList==[102,111,114])=false:=cV h3;have q4:(s.toList==[102,117,110,99])=false:=cV h4;have q5:(s.toList==[105,102])=false:=cV h5;have q6:(s.toList==[105,109,112,111,114,116])=false:=cV h6;have q7:(s.toList==[105,110,116,101,114,102,97,99,101])=false:=cV h7;have q8:(s.toList==[112,97,99,107,97,103,101])=false:=cV h8;have q9:(s.toList==[114,97,110,103,101])=false:=cV h9;have g0:(s.toList==[114,101,116,117,114,110])=false:=cV D;have gz:(s.toList==[115,116,114,117,99,116])=false:=cV I;have gy:(s.toList==[116,121,112,101])=false:=cV J;have gx:(s.toList==[118,97,114])=false:=cV M;have gw:(s.toList==[99,97,115,101])=false:=cV N;have gv:(s.toList==[99,104,97,110])=false:=cV U;have gu:(s.toList==[99,111,110,115,116])=false:=cV ga;have gt:(s.toList==[100,101,102,97,117,108,116])=false:=cV gb;have gs:(s.toList==[100,101,102,101,114])=false:=cV gd;have gr:(s.toList==[102,97,108,108,116,104,114,111,117,103,104])=false:=cV ge;have gq:(s.toList==[103,111])=false:=cV gg;have gp:(s.toList==[103,111,116,111])=false:=cV gh;have gn:(s.toList==[109,97,112])=false:=cV gi;have gm:(s.toList==[115,101,108,101,99,116])=false:=cV gj;have gl:(s.toList==[115,119,105,116,99,104])=false:=cV gk;rw[hz];clear hz O h h2 h3 h4 h5 h6 h7 h8 h9 D I J M N U ga gb gd ge gg gh gi gj gk;(go_enter Tryz.func102,Tryz.ntmps102);(go_wp2_with fail);go_ret;exact⟨rfl,rfl⟩
theorem cW{w wr:World}{b:Nat}{s:ByteArray}{k:Nat}{B:Nat}(h:Below B w wr)(hb:B<=b):Below B w (wr.iterAt b s k):=
 ⟨h.os,h.tape,h.output,by rw[iterAt_size];exact h.size,fun j hj=>(iterAt_other wr _ _ s _ (by omega)).trans (h.block j hj)⟩
theorem rW(s:ByteArray)(i:Nat)(h:i<s.size):1<=(Utf8.decode s i).2/\i+(Utf8.decode s i).2<=s.size:=by simp only[Utf8.decode];(repeat' split);(all_goals simp_all);all_goals omega
def OR(s:ByteArray)(j:Nat):Bool:=bo ((s.data.toList.getD j 0).toNat:Int)||(decide (0<j)&&aW ((s.data.toList.getD j 0).toNat:Int))
theorem mR(c:UInt8):mh c=bo (c.toNat:Int):=by unfold mh bo;rw[qb];simp[UInt8.le_iff_toNat_le,<-UInt8.toNat_inj];omega
theorem fv(c:UInt8):fk c=aW (c.toNat:Int):=by unfold fk aW;rw[qb];simp[UInt8.le_iff_toNat_le];omega
theorem Az(l:List UInt8):eT l=true↔∀j,j<l.length->(bo ((l.getD j 0).toNat:Int)||(decide (0<j)&&aW ((l.getD j 0).toNat:Int)))=true:=by
 cases l with
 |nil=>simp[eT]
 |cons c r=>
  unfold eT;rw[gB,qC];constructor
  ·rintro⟨M,J⟩j D;cases j with
   |zero=>simp[<-mR,M]
   |succ j=>(have I:j<r.length:=by simpa using D);have:=J r[j] (jC _);rw[mR,fv]at this;simpa[I]using this
  ·intro h;refine⟨by have:=h 0 (by simp);simpa[<-mR]using this,fun x hx=>?_⟩;obtain⟨j,D,rfl⟩:=List.mem_iff_getElem.1 hx;have:=h (j+1) (by simpa using D);rw[mR,fv];simpa[D]using this
theorem mG{c:Int}(h:128<=c):bo c=false:=by unfold bo;(have J:(c==95)=false:=by simp;omega);(have I:decide (c<=122)=false:=by simp;omega);(have D:decide (c<=90)=false:=by simp;omega);rw[J,I,D];simp
theorem fF{c:Int}(h:128<=c):aW c=false:=by unfold aW;(have D:decide (c<=57)=false:=by simp;omega);rw[D];simp
theorem oX(s:ByteArray)(i:Nat)(h:i<s.size):(Utf8.decode s i=((s.data.toList.getD i 0).toNat,1)/\(s.data.toList.getD i 0).toNat<128)\/(128<=(Utf8.decode s i).1/\128<=(s.data.toList.getD i 0).toNat):=by
 (have e:s.data.toList.getD i 0=s[i]:=by rw[gN,gQ (by simpa using h)];rfl);rw[e];rcases jZ s[i].toNat 128 with D|D
 ·exact .inl ⟨decode_ascii s i h D,D⟩
 ·exact .inr ⟨(decode_high s i h D).1,D⟩
def pH(i:Nat)(c:Int):Bool:=bo c||(decide (0<i)&&aW c)
theorem CZ(s:ByteArray)(w:World):Calls Tryz.prog 151 #[.string s] w fun e w'=>e=.returned (.bool (mi s))/\Below w w w':=by
 (have hT:mi s=(eT s.data.toList&&(!s.toList.isEmpty&&(bZ s==0))):=by unfold mi;rw[aK,lH];congr 2;rw[qb];simp);have hN:=Az s.data.toList;rw[hT];generalize eT s.data.toList=nc at *;have HN:=hid hN;clear hT hN;have i1:=qz w s 0;have i2:Below w w (w.iter s 0):=(gG _ w).alloc (d5 _) _;(go_enter Tryz.func151,Tryz.ntmps151);(go_wp2_with fail);go_loopg [3,4,7,8] s.size (fun g _ _ _ _ wr=>∃i:Nat,i<=s.size/\s.size-i<=g/\wr.heap[w.heap.size]? = some (.stringIter s i)/\Below w w wr/\(∀j,j<i->OR s j=true))
 case atStart=>exact⟨0,gP _,by omega,i1,i2,fun j hj=>by omega⟩
 case round=>
  clear i1 i2;obtain⟨i,hi,hg,hit,hB,ga⟩:=hrel;have gg:=hid hit;have HA:=hid ga;clear hit ga;by_cases M:i<s.size
  ·have hw:=rW s i M;have gd:=oX s i M;have I:=fun ty=>qI (P:=Tryz.prog) wr w.heap.size s i ty gg.out M;have gi:OR s i=pH i ((s.data.toList.getD i 0).toNat:Int):=rfl;generalize hb:(s.data.toList.getD i 0).toNat=b at *;generalize hd:Utf8.decode s i=q at *;obtain⟨r,k⟩:=q;simp only at hw I gd;have h:pH i (r:Int)=pH i (b:Int)/\(pH i (r:Int)=true->k=1):=by
    rcases gd with⟨e,_⟩|⟨h1,h2⟩
    ·injection e with e1 e2;subst e1 e2;exact⟨rfl,fun _=>rfl⟩
    ·unfold pH;rw[mG (by omega),mG (by omega),fF (by omega),fF (by omega)];exact⟨rfl,by simp⟩
   have ge:=hid gi;have J:=hid h;have j1:=qL wr w.heap.size s i (i+k) gg.out;have j2:Below w w (wr.iterAt w.heap.size s (i+k)):=cW hB (d5 _);generalize wr.iterAt w.heap.size s (i+k)=W1 at I j1 j2;have J1:=hid j1;clear gi h gd j1 hd hb;have U:pH i (r:Int)=false->nc=false:=by
    intro hf;cases hn:nc with
    |false=>rfl
    |true=>have:=(HN.out.1 hn) i (by simpa using M);rw[show(bo ((s.data.toList.getD i 0).toNat:Int)||(decide (0<i)&&aW ((s.data.toList.getD i 0).toNat:Int)))=OR s i from rfl,ge.out,<-J.out.1,hf]at this;cases this
   have O:=hid U;have gj:pH i (r:Int)=true->k=1/\∀j,j<i+k->OR s j=true:=by
    intro hf;have hk:=J.out.2 hf;refine⟨hk,fun j hj=>?_⟩;by_cases e:j=i
    ·subst e;rw[ge.out,<-J.out.1,hf]
    ·exact HA.out j (by omega)
   have gh:=hid gj;clear U gj J ge HA;unfold pH at O gh;cases hL:bo (r:Int)with
   |true=>
    obtain⟨_,D⟩:=gh.out (by rw[hL];rfl);have N:=hid D;clear D;(go_wp2_with fail);refine(fg _ _).mono ?_;rw[hL];rintro e w1⟨rfl,rfl⟩;(go_wp2_with fail);go_roundg (s.size-(i+k))
    case measure=>omega
    case rel=>exact⟨i+k,hw.2,d5 _,J1.out,j2,N.out⟩
   |false=>
    by_cases hz:i=0
    ·have HX:=hid (O.out (by rw[hL,hz];rfl));(have gl:((i:Int)==0)=true:=by simp[hz]);clear hz;(go_wp2_with fail);refine(fg _ _).mono ?_;rw[hL];rintro e w1⟨rfl,rfl⟩;(go_wp2_with fail);go_ret;exact⟨by rw[HX.out];rfl,j2⟩
    ·(have gl:((i:Int)==0)=false:=by simp;omega);(have gb:decide (0<i)=true:=by simp;omega);cases hF:aW (r:Int)with
     |true=>
      obtain⟨_,D⟩:=gh.out (by rw[hL,hF,gb];rfl);have N:=hid D;clear D gb hz;(go_wp2_with fail);refine(fg _ _).mono ?_;rw[hL];rintro e w1⟨rfl,rfl⟩;(go_wp2_with fail);refine(lg _ _).mono ?_;rw[hF];rintro e w1⟨rfl,rfl⟩;(go_wp2_with fail);go_roundg (s.size-(i+k))
      case measure=>omega
      case rel=>exact⟨i+k,hw.2,d5 _,J1.out,j2,N.out⟩
     |false=>have HX:=hid (O.out (by rw[hL,hF];simp));clear gb hz;(go_wp2_with fail);refine(fg _ _).mono ?_;rw[hL];rintro e w1⟨rfl,rfl⟩;(go_wp2_with fail);refine(lg _ _).mono ?_;rw[hF];rintro e w1⟨rfl,rfl⟩;(go_wp2_with fail);go_ret;exact⟨by rw[HX.out];rfl,j2⟩
  ·(have yk:i=s.size:=by omega);have I:=fun ty=>qA (P:=Tryz.prog) wr w.heap.size s i ty gg.out M;have HX:Hid (nc=true):=hid (HN.out.2 fun j hj=>HA.out j (by simp at hj;omega));clear yk;cases hE:s.toList.isEmpty with
   |true=>(go_wp2_with fail);go_ret;exact⟨by rw[HX.out,hE];rfl,hB⟩
   |false=>(go_wp2_with fail);refine(CY _ _).mono ?_;rintro e w1⟨rfl,rfl⟩;(go_wp2_with fail);go_ret;exact⟨by rw[HX.out,hE];rfl,hB⟩
theorem tP(w:World)(v:Value)(n:Nd)(D:bR w v n):Calls Tryz.prog 174 #[v] w fun e w'=>e=.returned (.bool (aE n))/\Below w w w':=by obtain⟨A,cp,rfl,I⟩:=D.toC;(have hE:aE n=(n.kind==0&&(n.text.toList.isEmpty&&((n.kids.length:Int)==0))):=by unfold aE;rw[aK,lH,lH];congr 2;rw[qf];omega);rw[hE];generalize hl:(n.kids.length:Int)=m at *;generalize n.kind=k at *;generalize n.text=t at *;clear hE D I;cases N:(k==0)<;>cases M:t.toList.isEmpty<;>cases J:(m==0);all_goals(go_enter Tryz.func174,Tryz.ntmps174);(go_wp2_with fail);go_ret;refine⟨rfl,?_⟩;exact bel
theorem aq.retext{X:Nat->Prop}{w:World}{k:Value}{t p:Value}{A:Option Addr}{c:Nat}{n:Nd}(h:aq X w (.agg #[k,t,.slice A n.kids.length c,p]) n)(x:ByteArray):
  aq X w (.agg #[.int .i64 n.kind,.string x,.slice A n.kids.length c,.int .i64 n.pos]) (.mk n.kind x n.kids n.pos):=by obtain⟨M,c1,xs,e,J,I,D⟩:=h;injection e with e;injection e with e;simp only[qP,and_true]at e;obtain⟨_,_,e,_⟩:=e;injection e with e1 _ e3;subst e1 e3;exact⟨A,c,xs,rfl,J,I,D⟩
def Tm(w:World)(n:Nd)(e:Ending)(w':World):Prop:=∃v,e=.returned v/\bR w' v n/\Below w w w'
theorem df(w:World)(v:Value)(n:Nd)(M:bR w v n)(f:Fv)(P:ByteArray->Bool)(hs:CX P f w)(ht:n.text.size<=1000000000):
  Calls Tryz.prog 155 #[v,.func (.func f.k) #[] f.cap] w (Tm w (aG P n)):=by
 have I:=M;obtain⟨A,cp,rfl,hC⟩:=M.toC;have he:=hs.enter;have HS:=hid hs;have hB:=((gG w.heap.size w).alloc (d5 _) (.cells #[.int .i64 n.kind,.string n.text,.slice A n.kids.length cp,.int .i64 n.pos] 24)).alloc (by simp) (.cells bD 24);have h:au ((w.alloc (.cells #[.int .i64 n.kind,.string n.text,.slice A n.kids.length cp,.int .i64 n.pos] 24)).alloc (.cells bD 24)) w.heap.size 24 #[.int .i64 n.kind,.string n.text,.slice A n.kids.length cp,.int .i64 n.pos]:=(au.new w _ _).alloc _;have U:au ((w.alloc (.cells #[.int .i64 n.kind,.string n.text,.slice A n.kids.length cp,.int .i64 n.pos] 24)).alloc (.cells bD 24)) (w.heap.size+1) 24 bD:=au.new_at (by simp) _ _;have N:=hid I;clear I M hC hs;(go_enter Tryz.func155,Tryz.ntmps155);(go_wp2_with fail);refine(HS.out.out _ _ hB ht).mono ?_;rintro e w1⟨rfl,D⟩;have c1:=h.below D (by simp;omega);have c2:=U.below D (by simp);have gb:=a8 hB D;clear h U hB D he HS;obtain⟨x0,x1,x2,x3,y0,y1,y2,y3⟩:=ag c1;obtain⟨z0,z1,z2,z3,u0,u1,u2,u3⟩:=ag c2;(have ga:w.heap.size+1≠w.heap.size:=by omega);cases J:P n.text with
 |true=>have O:Hid (aG P n=.mk n.kind ⟨#[]⟩ n.kids n.pos):=hid (by unfold aG;rw[J];rfl);clear J;(go_wp2_with fail);have hb:au (ck (w1.setCell ⟨w,1,none⟩ (.string ⟨#[]⟩)) (w.heap.size+1) (.int .i64 n.kind) (.string ⟨#[]⟩) (.slice A n.kids.length cp) (.int .i64 n.pos)) (w.heap.size+1) 24 #[.int .i64 n.kind,.string ⟨#[]⟩,.slice A n.kids.length cp,.int .i64 n.pos]:=cg (c2.far (p:=⟨w,1,none⟩) (by show w.heap.size+1≠w.heap.size;omega) _) _ _ _ _;refine jL (eX rfl _ (by rfl) hb) rfl ?_;rw[O.out];exact⟨_,rfl,(aq.retext N.out ⟨#[]⟩).below mP,mP⟩
 |false=>have O:Hid (aG P n=.mk 37 ⟨#[]⟩ [] 0):=hid (by unfold aG;rw[J];rfl);clear J;(go_wp2_with fail);have hb:au (ck w1 (w.heap.size+1) (.int .i64 37) (.string ⟨#[]⟩) (.slice none 0 0) (.int .i64 0)) (w.heap.size+1) 24 #[.int .i64 37,.string ⟨#[]⟩,.slice none 0 0,.int .i64 0]:=cg c2 _ _ _ _;refine jL (eX rfl _ (by rfl) hb) rfl ?_;rw[O.out];exact⟨_,rfl,aq.leaf _ _ _,mP⟩
theorem bg{w:World}{g:Nat}{t:TypeId}{a:Value}(h:au w g t #[a]):w.cell? ⟨g,0,none⟩=some a:=by have c0:=h.cell 0;simp at c0;exact c0
theorem OS(d:Nat)(P Q:Nd->Bool)(f g:Fv)(w0:World)(hf:oW d P f w0)(hg:oW d Q g w0)(a b:Nat)
  (ha:au w0 a 37 #[.func (.func f.k) #[] f.cap])(hb:au w0 b 37 #[.func (.func g.k) #[] g.cap]):
  oW d (dv P Q) ⟨206,#[a,b]⟩ w0:=by
 refine⟨fun a w=>by kernel_rfl,fun w v n hw hv hd=>?_⟩;have gg:=hf.enter;have ge:=hg.enter;have J:=hv;obtain⟨A,cp,rfl,hC⟩:=hv.toC;have hB:=(aH w #[.int .i64 n.kind,.string n.text,.slice A n.kids.length cp,.int .i64 n.pos]).1;have I:=hw.alloc hw.size (.cells #[.int .i64 n.kind,.string n.text,.slice A n.kids.length cp,.int .i64 n.pos] 24);have b1:=(aH w #[.int .i64 n.kind,.string n.text,.slice A n.kids.length cp,.int .i64 n.pos]).2;have ca:=bg (ha.bl I);have HF:=hid (hf.out _ _ n I (J.below hB) hd);have h:=hb.lt;have HV:=hid (J.below hB);have HG:=hid hg;have gb:=hid hb;have gd:=hw.size;show Calls _ _ _ w fun e w'=>e=.returned (.bool (P n||Q n))/\_;clear hf hg J hv hC ha hb;(go_enter Tryz.func206,Tryz.ntmps206);(go_wp2_with fail);refine HF.out.mono ?_;rintro e w1⟨rfl,D⟩;have N:=a8 I D;have cb:=bg (gb.out.below N h);obtain⟨x0,x1,x2,x3,_,_,_,_⟩:=ag (b1.below D (by simp));have U:=hid (HG.out.out _ _ n N (HV.out.below D) hd);have M:=a8 hB D;clear D hB b1 I ca HF;cases hP:P n with
 |true=>(go_wp2_with fail);go_ret;exact⟨by rw[hP];rfl,M⟩
 |false=>(go_wp2_with fail);refine U.out.mono ?_;rintro e w2⟨rfl,O⟩;have ga:=a8 M O;clear O U M;(go_wp2_with fail);go_ret;exact⟨by rw[hP];rfl,ga⟩
theorem iK(d:Nat)(P Q:Nd->Bool)(f g:Fv)(w:World)(I:oW d P f w)(D:oW d Q g w):
  Calls Tryz.prog 158 #[.func (.func f.k) #[] f.cap,.func (.func g.k) #[] g.cap] w fun e w'=>∃h:Fv,e=.returned (.func (.func h.k) #[] h.cap)/\oW d (dv P Q) h w'/\Below w w w':=by have O:=hid I;have N:=hid D;have hB:=((gG w.heap.size w).alloc (d5 _) (.cells #[.func (.func f.k) #[] f.cap] 37)).alloc (by simp) (.cells #[.func (.func g.k) #[] g.cap] 37);have M:au ((w.alloc (.cells #[.func (.func f.k) #[] f.cap] 37)).alloc (.cells #[.func (.func g.k) #[] g.cap] 37)) w.heap.size 37 #[.func (.func f.k) #[] f.cap]:=(au.new w _ _).alloc _;have J:au ((w.alloc (.cells #[.func (.func f.k) #[] f.cap] 37)).alloc (.cells #[.func (.func g.k) #[] g.cap] 37)) (w.heap.size+1) 37 #[.func (.func g.k) #[] g.cap]:=au.new_at (by simp) _ _;clear I D;(go_enter Tryz.func158,Tryz.ntmps158);(go_wp2_with fail);go_ret;exact⟨⟨206,#[w,.pointer (some ⟨w.heap.size+1,0,none⟩)]⟩,rfl,OS d P Q f g _ (O.out.below hB) (N.out.below hB) _ _ M J,hB⟩
theorem nh.at_{w:World}{A:Option Addr}{n c:Nat}{l:List Nd}(h:nh w (.slice A n c) l)(i:Nat)(J:i<l.length):
  n=l.length/\∃b off D cp,A=some ⟨b,off,none⟩/\b<w.heap.size/\w.cell? ⟨b,off+i*4,none⟩=some (.int .i64 l[i].kind)/\w.cell? ⟨b,off+i*4+1,none⟩=some (.string l[i].text) /\
    w.cell? ⟨b,off+i*4+2,none⟩=some (.slice D l[i].kids.length cp)/\w.cell? ⟨b,off+i*4+3,none⟩=some (.int .i64 l[i].pos) /\
    bR w (.agg #[.int .i64 l[i].kind,.string l[i].text,.slice D l[i].kids.length cp,.int .i64 l[i].pos]) l[i]:=by(have I:n=l.length:=by obtain⟨_,_,_,e,_⟩:=h;injection e);obtain⟨b,off,D,cp,e,_,h1,h2,U,O,N,M⟩:=h.kid i J;exact⟨I,b,off,D,cp,e,h1,h2,U,O,N,M⟩
def AA(P:Nd->Bool):List Nd->Nat->Int
 |[],_ =>-1
 |n::l,i=>if P n then(i:Int)else AA P l (i+1)
theorem C1(P:Nd->Bool):∀(l:List Nd)(i:Nat),decide (0<=AA P l i)=l.any P
 |[],i=>rfl
 |n::l,i=>by
  rw[AA,List.any_cons];cases D:P n with
  |true=>simp
  |false=>simpa using C1 P l (i+1)
theorem GR(P:Nd->Bool)(l:List Nd)(i:Nat)(D:i<l.length):AA P (l.drop i) i=if P l[i]then(i:Int)else AA P (l.drop (i+1)) (i+1):=by rw[jX D,AA]
theorem AB(d:Nat)(P:Nd->Bool)(f:Fv)(A:Option Addr)(c:Nat)(l:List Nd)(w:World)(hv:nh w (.slice A l.length c) l)(hd:∀n∈l,lW d n)(hl:l.length<=1000000000)(hf:oW d P f w):
  Calls Tryz.prog 202 #[.slice A l.length c,.func (.func f.k) #[] f.cap] w fun e w'=>e=.returned (.int .i64 (AA P l 0))/\Below w w w':=by
 have he:=hf.enter;have HF:=hid hf;have HV:=hid hv;have HD:=hid hd;generalize U:AA P l 0=I;have HI:=hid U;clear hf hv hd U;(go_enter Tryz.func202,Tryz.ntmps202);(go_wp2_with fail);go_loopg [5,8] l.length (fun g _ u8 wr=>∃i:Nat,i<=l.length/\l.length-i<=g/\u8=.int .i64 (i:Int)/\AA P (l.drop i) i=I/\Below w w wr)
 case atStart=>exact⟨0,gP _,by omega,rfl,by simpa using HI.out,gG _ _⟩
 case round=>
  obtain⟨i,hi,hg,rfl,U,hB⟩:=hrel;have HI:=hid U;clear U;by_cases M:i<l.length
  ·(have O:(i:Int)<(l.length:Int):=by omega);(have h0:(0:Int)<=(i:Int):=by omega);obtain⟨_,b,off,A1,cp,rfl,hb,k0,k1,k2,k3,hn⟩:=nh.at_ (HV.out.below hB) i M;have HC:=hid (HF.out.out _ _ l[i] hB hn (HD.out _ (jC M)));have HE:=hid (GR P l i M);generalize l[i]=x at *;clear hn;cases hP:P x with
   |true=>have h:=hid (show I=(i:Int)by rw[<-HI.out,HE.out,hP];rfl);(go_wp2_with fail);refine HC.out.mono ?_;rw[hP];rintro e w1⟨rfl,D⟩;have N:=a8 hB D;clear D HC;(go_wp2_with fail);go_ret;exact⟨by rw[h.out];rfl,N⟩
   |false=>
    have h:Hid (AA P (l.drop (i+1)) (i+1)=I):=hid (by rw[<-HI.out,HE.out,hP];rfl);(go_wp2_with fail);refine HC.out.mono ?_;rw[hP];rintro e w1⟨rfl,D⟩;have N:=a8 hB D;clear D HC;(go_wp2_with fail);go_roundg (l.length-(i+1))
    case measure=>omega
    case rel=>exact⟨i+1,by omega,d5 _,by go_num,h.out,N⟩
  ·(have O:¬ (i:Int)<(l.length:Int):=by omega);have J:l.drop i=[]:=jU (by omega);have h:Hid (I = -1):=hid (by rw[<-HI.out,J];rfl);clear J;(go_wp2_with fail);go_ret;exact⟨by rw[h.out];rfl,hB⟩
theorem tQ(d:Nat)(P:Nd->Bool)(f:Fv)(A:Option Addr)(c:Nat)(l:List Nd)(w:World)(I:nh w (.slice A l.length c) l)(hd:∀n∈l,lW d n)(M:l.length<=1000000000)(J:oW d P f w):
  Calls Tryz.prog 152 #[.slice A l.length c,.func (.func f.k) #[] f.cap] w fun e w'=>e=.returned (.bool (l.any P))/\Below w w w':=by have N:=hid (AB d P f A c l w I hd M J);rw[<-C1 P l 0];clear I hd J;(go_enter Tryz.func152,Tryz.ntmps152);(go_wp2_with fail);refine N.out.mono ?_;rintro e w1⟨rfl,D⟩;(go_wp2_with fail);go_ret;exact⟨rfl,D⟩
theorem Ls(d:Nat)(P:Nd->Bool)(f:Fv)(w0:World)(M:oW d P f w0)(a:Nat)(N:au w0 a 37 #[.func (.func f.k) #[] f.cap]):
  oW d (fun n =>!P n) ⟨153,#[a]⟩ w0:=by refine⟨fun a w=>by kernel_rfl,fun w v n hw hv hd=>?_⟩;have gb:=M.enter;have J:=hv;obtain⟨A,cp,rfl,hC⟩:=hv.toC;have hB:=(aH w #[.int .i64 n.kind,.string n.text,.slice A n.kids.length cp,.int .i64 n.pos]).1;have D:=hw.alloc hw.size (.cells #[.int .i64 n.kind,.string n.text,.slice A n.kids.length cp,.int .i64 n.pos] 24);have ca:=bg (N.bl D);have U:=hid (M.out _ _ n D (J.below hB) hd);have ga:=N.lt;have h:=hw.size;show Calls _ _ _ w fun e w'=>e=.returned (.bool (!P n))/\_;clear M J hv hC N;(go_enter Tryz.func153,Tryz.ntmps153);(go_wp2_with fail);refine U.out.mono ?_;rintro e w1⟨rfl,I⟩;have O:=a8 hB I;clear I hB D ca U;(go_wp2_with fail);go_ret;exact⟨rfl,O⟩
theorem OT(P:Nd->Bool)(l:List Nd):(!(l.any fun n =>!P n))=l.all P:=by
 induction l with
 |nil=>rfl
 |cons n l ih=>rw[List.any_cons,kC,<-ih];cases P n<;>simp
theorem lI(d:Nat)(P:Nd->Bool)(f:Fv)(A:Option Addr)(c:Nat)(l:List Nd)(w:World)(J:nh w (.slice A l.length c) l)(hd:∀n∈l,lW d n)(O:l.length<=1000000000)(M:oW d P f w):
  Calls Tryz.prog 119 #[.slice A l.length c,.func (.func f.k) #[] f.cap] w fun e w'=>e=.returned (.bool (l.all P))/\Below w w w':=by have hB:=(gG w.heap.size w).alloc (d5 _) (.cells #[.func (.func f.k) #[] f.cap] 37);have N:=au.new w 37 #[.func (.func f.k) #[] f.cap];have U:=hid (tQ d (fun n =>!P n) ⟨153,#[w]⟩ A c l _ (J.below hB) hd O (Ls d P f _ (M.below hB) _ N));(have h:∀a w,(callFunc 153 a).run Tryz.prog w=.ok (.enter 153 a) w:=fun a w=>by kernel_rfl);rw[<-OT P l];clear J hd M N;(go_enter Tryz.func119,Tryz.ntmps119);(go_wp2_with fail);refine U.out.mono ?_;rintro e w1⟨rfl,D⟩;have I:=a8 hB D;clear D hB;(go_wp2_with fail);go_ret;exact⟨rfl,I⟩
theorem C2(d:Nat)(P:Nd->Bool)(f:Fv)(v:Value)(n:Nd)(w:World)(J:bR w v n)(hd:lW (d+1) n)(M:oW d P f w):
  Calls Tryz.prog 204 #[v,.func (.func f.k) #[] f.cap] w fun e w'=>e=.returned (.bool (nL P n))/\Below w w w':=by
 have I:=J;obtain⟨A,cp,rfl,N⟩:=J.toC;have hB:=(aH w #[.int .i64 n.kind,.string n.text,.slice A n.kids.length cp,.int .i64 n.pos]).1;have U:=hid (lI d P f A cp n.kids _ (I.below hB).kidsV hd.2 hd.1.1 (M.below hB));(have hE:nL P n=(n.kind==6&&(n.text.toList.isEmpty&&n.kids.all P)):=by unfold nL;rw[aK,lH]);rw[hE];clear hE I J N hd M;generalize n.kids.all P=q at *;generalize n.kind=k at *;generalize n.text=t at *;cases h1:(k==6)<;>cases h:t.toList.isEmpty;all_goals
  (go_enter Tryz.func204,Tryz.ntmps204);(go_wp2_with fail);try
   refine U.out.mono ?_
   rintro e w1⟨rfl,D⟩
   have O:=a8 hB D
   clear D
   go_wp2_with fail
  go_ret;exact⟨rfl,by assumption⟩
theorem rX:∀(l:List (Nd->Bool))(ns:List Nd),l.length≠ns.length->cy l ns=false
 |[],[],h=>absurd rfl h
 |[],_::_,_=>rfl
 |_::_,[],_=>rfl
 |p::l,n::ns,h=>by rw[cy,rX l ns (by simpa using h)];simp
theorem C3(l:List (Nd->Bool))(ns:List Nd)(i:Nat)(I:i<l.length)(D:i<ns.length):cy (l.drop i) (ns.drop i)=(l[i] ns[i]&&cy (l.drop (i+1)) (ns.drop (i+1))):=by rw[jX I,jX D,cy]
def eQ(w:World)(B:Option Addr)(fs:List (Fv×(Nd->Bool))):Prop:=
 (fs=[]/\B=none)\/∃b,B=some ⟨b,0,none⟩/\au w b 37 (fs.map fun x=>Value.func (.func x.1.k) #[] x.1.cap).toArray
theorem eQ.below{w w':World}{B:Option Addr}{fs:List (Fv×(Nd->Bool))}(h:eQ w B fs)(hb:Below w w w'):eQ w' B fs:=by
 rcases h with h|⟨b,e,h⟩
 ·exact .inl h
 ·exact .inr ⟨b,e,h.bl hb⟩
theorem eQ.get{w:World}{B:Option Addr}{fs:List (Fv×(Nd->Bool))}(h:eQ w B fs)(i:Nat)(D:i<fs.length):∃b,B=some ⟨b,0,none⟩/\b<w.heap.size/\w.cell? ⟨b,i,none⟩=some (.func (.func fs[i].1.k) #[] fs[i].1.cap):=by
 rcases h with⟨rfl,_⟩|⟨b,e,h⟩
 ·simp at D
 ·refine⟨b,e,h.lt,?_⟩;rw[h.cell i];simp[D]
theorem cD(d:Nat)(fs:List (Fv×(Nd->Bool)))(k:Int)(v:Value)(n:Nd)(B:Option Addr)(w:World)(m:Nat)(hm:fs.length=m)(gi:m<=9)
  (hv:bR w v n)(hd:lW (d+1) n)(hB:eQ w B fs)(hs:∀x∈fs,oW d x.2 x.1 w):
  Calls Tryz.prog 154 #[v,.int .i64 k,.slice B m m] w fun e w'=>e=.returned (.bool (fc k (fs.map (·.2)) n))/\Below w w w':=by
 have gb:=hv;obtain⟨A,cp,rfl,hC⟩:=hv.toC;have J:=(aH w #[.int .i64 n.kind,.string n.text,.slice A n.kids.length cp,.int .i64 n.pos]).1;have b1:=(aH w #[.int .i64 n.kind,.string n.text,.slice A n.kids.length cp,.int .i64 n.pos]).2;have HK:=hid (aq.kidsV (gb.below J));have HF:=hid (hB.below J);have HS:=hid (fun x hx=>(hs x hx).below J);have HM:=hid hm;have HD:=hid hd.2;have gg:=hd.1.1;have hE:fc k (fs.map (·.2)) n=(!(n.kind != k)&&(!(!n.text.toList.isEmpty)&&(!((n.kids.length:Int) != (m:Int))&&cy (fs.map (·.2)) n.kids))):=by
  unfold fc;rw[aK];by_cases h3:n.kids.length=m
  ·(have:((n.kids.length:Int) != (m:Int))=false:=by simp[h3]);rw[this];simp[bne,lH]
  ·(have h4:((n.kids.length:Int) != (m:Int))=true:=by simp;omega);rw[h4,rX (fs.map (·.2)) n.kids (by rw[jV];omega)];simp
 rw[hE];clear hE gb hv hC hd hB hs hm;generalize hI:cy (fs.map (·.2)) n.kids=I;have HI:=hid hI;clear hI;generalize n.kind=nk at *;generalize n.text=nt at *;generalize n.kids=ks at *;cases h1:(nk != k)with
 |true=>(go_enter Tryz.func154,Tryz.ntmps154);(go_wp2_with fail);go_ret;exact⟨rfl,J⟩
 |false=>
  cases h2:nt.toList.isEmpty with
  |false=>(go_enter Tryz.func154,Tryz.ntmps154);(go_wp2_with fail);go_ret;exact⟨rfl,J⟩
  |true=>
   cases h3:((ks.length:Int) != (m:Int))with
   |true=>(go_enter Tryz.func154,Tryz.ntmps154);(go_wp2_with fail);go_ret;exact⟨rfl,J⟩
   |false=>
    have N:Hid (ks.length=m):=hid (by simp at h3;omega);(go_enter Tryz.func154,Tryz.ntmps154);(go_wp2_with fail);clear h3;go_loopg [7,8,28] m (fun g _ _ u28 wr=>∃i:Nat,i<=m/\m-i<=g/\u28=.int .i64 (i:Int)/\cy ((fs.map (·.2)).drop i) (ks.drop i)=I/\Below (w.heap.size+1) (w.alloc (.cells #[.int .i64 nk,.string nt,.slice A ks.length cp,.int .i64 n.pos] 24)) wr)
    case atStart=>exact⟨0,gP _,by omega,rfl,by simpa using HI.out,gG _ _⟩
    case round=>
     obtain⟨i,hi,hg,rfl,hI,hB⟩:=hrel;have HI:=hid hI;have gd:=J.trans (hB.mono (by omega));have O:Hid (Below (w.alloc (.cells #[.int .i64 nk,.string nt,.slice A ks.length cp,.int .i64 n.pos] 24)).heap.size (w.alloc (.cells #[.int .i64 nk,.string nt,.slice A ks.length cp,.int .i64 n.pos] 24)) wr):=hid (by simpa using hB);obtain⟨x0,x1,x2,x3,_,_,_,_⟩:=ag (b1.below hB (by omega));(have gh:w.heap.size+1<=wr.heap.size:=by have:=hB.size;simpa using this);clear hI hB;by_cases D:i<m
     ·(have ga:(i:Int)<(m:Int):=by omega);(have h0:(0:Int)<=(i:Int):=by omega);(have ge:(i:Int)<(ks.length:Int):=by rw[N.out];omega);obtain⟨_,b,off,A1,yk,rfl,hb,k0,k1,k2,k3,hn⟩:=nh.at_ (HK.out.below O.out) i (by rw[N.out];exact D);obtain⟨bf,rfl,gj,f0⟩:=(HF.out.below O.out).get i (by rw[HM.out];exact D);have h:=HS.out (fs[i]'(by rw[HM.out];exact D)) (jC _);have he:=h.enter;have HC:=hid (h.out _ _ _ O.out hn (HD.out _ (jC _)));have HE:=hid (C3 (fs.map (·.2)) ks i (by rw[jV,HM.out];exact D) (by rw[N.out];exact D));simp only[List.getElem_map]at HE;generalize fs[i]'(by rw[HM.out];exact D)=ff at *;generalize ks[i]'(by rw[N.out];exact D)=x at *;clear hn h;cases hP:ff.2 x with
      |true=>
       have HX:Hid (cy ((fs.map (·.2)).drop (i+1)) (ks.drop (i+1))=I):=hid (by rw[<-HI.out,HE.out,hP];rfl);(go_wp2_with fail);refine HC.out.mono ?_;rw[hP];rintro e w1⟨rfl,M⟩;have U:=a8 O.out M;clear M HC;(go_wp2_with fail);go_roundg (m-(i+1))
       case measure=>omega
       case rel=>exact⟨i+1,by omega,d5 _,by go_num,HX.out,by simpa using U⟩
      |false=>have HX:Hid (I=false):=hid (by rw[<-HI.out,HE.out,hP];rfl);(go_wp2_with fail);refine HC.out.mono ?_;rw[hP];rintro e w1⟨rfl,M⟩;have U:=a8 gd M;clear M HC;(go_wp2_with fail);go_ret;exact⟨by rw[HX.out];rfl,U⟩
     ·(have ga:¬ (i:Int)<(m:Int):=by omega);have h4:ks.drop i=[]:=jU (by rw[N.out];omega);have h5:(fs.map (·.2)).drop i=[]:=jU (by rw[jV,HM.out];omega);have HX:Hid (I=true):=hid (by rw[<-HI.out,h4,h5];rfl);clear h4 h5;(go_wp2_with fail);go_ret;exact⟨by rw[HX.out];rfl,gd⟩
end
end Go.Proofs.YtiebcdeafofgdaaGreatDoor
