/-
  Parts of the proof: Rfun Rask Ras. By an AI agent.
-/
import Derived.Test.YtcoiialmdncpfaaGreatDoorJ26
open Go.Proofs.Tryz
set_option maxRecDepth 100000
set_option maxHeartbeats 8000000
namespace Go.Proofs.YtcoiialmdncpfaaGreatDoor
section
open Go.RowKit Go.Lib Go.Proofs
attribute [local go_sem ↓] Go.wp_at_zero Go.wp_at_succ
attribute [local go_sem] aK aL aM aZ a6 a7 a8
theorem IU{F:eQ}{p:Int}{c:Cx}{s s1:St}{sg:Nd}(h:nX F p c s=.ok sg s1):∃a r,sg=.mk 12 ⟨#[]⟩ [a,r] p:=by
 unfold nX at h;cases J:need ⟨#[40]⟩ c s with
 |out=>rw[J]at h;cases h
 |fail q=>rw[J]at h;cases h
 | ok u s2=>
  rw[J]at h;change ((aU (eI F) ⟨#[41]⟩ F.g [] c s2).bind fun l s2=>(dm F c s2).bind fun r s3=>.ok (.mk 12 ⟨#[]⟩ [.mk 6 ⟨#[]⟩ l (ar c s),r] p) s3)=.ok sg s1 at h;cases I:aU (eI F) ⟨#[41]⟩ F.g [] c s2 with
  |out=>rw[I]at h;cases h
  |fail q=>rw[I]at h;cases h
  |ok l s3=>
   rw[I]at h;change ((dm F c s3).bind fun r s3=>.ok (.mk 12 ⟨#[]⟩ [.mk 6 ⟨#[]⟩ l (ar c s),r] p) s3)=.ok sg s1 at h;cases D:dm F c s3 with
   |out=>rw[D]at h;cases h
   |fail q=>rw[D]at h;cases h
   |ok r s4=>rw[D]at h;change d5.ok (Nd.mk 12 ⟨#[]⟩ [.mk 6 ⟨#[]⟩ l (ar c s),r] p) s4=.ok sg s1 at h;injection h with h _;exact⟨_,_,h.symm⟩
theorem oQ{w:World}{P:Nat}{t:TypeId}{a b c d:Value}(h:aa w P t #[a,b,c,d]):w.cell? ⟨P,0,none⟩=some a/\w.cell? ⟨P,1,none⟩=some b/\w.cell? ⟨P,2,none⟩=some c/\w.cell? ⟨P,3,none⟩=some d:=
 ⟨(h.cell 0).trans rfl,(h.cell 1).trans rfl,(h.cell 2).trans rfl,(h.cell 3).trans rfl⟩
def GU(types nb:Bool)(c:Cx)(s:St):Bool:=types&&(!nb&&(decide (s.at_+1<c.toks.length) && !((aj c (s.at_+1)).text.toList==[41])))
theorem rK(E:bC)(F:eQ)(hF:mC E F)(p:Int)(types:Bool)(w:World)(s:St)(h:aH E w s)(hf:dV F p types E.c s≠.out):
  Calls prog 321 #[E.R,p,.bool types] w (ic E w (dV F p types E.c s)):=by
 generalize hres:dV F p types E.c s=res at *;have gs:=hid hf;have gl:=h.lt;have ht:=h.most;have jd:=h.le;(have hj:(⟨#[41]⟩:BA).toList=[41]:=by decide +kernel);have gd:=hid (show(if GU types (iV E.c s) E.c s=true then(cN F p E.c s).bind fun t s1=>if iG E.c s1 then .ok t s1 else .fail (ar E.c s1)
   else(nX F p E.c s).bind fun sg s1=>if types=true/\(sg.kids.headD cj).kids.length=0/\iG E.c s1=true then .ok sg s1
   else(be F E.c s1).bind fun b s2=>.ok (.mk 25 ⟨#[]⟩ [sg,b] p) s2)=res by rw[<-hres,dV];(have e:(GU types (iV E.c s) E.c s=true)=(types=true/\iV E.c s=false/\s.at_+1<E.c.toks.length/\(aj E.c (s.at_+1)).text≠(⟨#[41]⟩:BA)):=by unfold GU;rw[<-hj,bW];simp);simp only[e])
 clear hres hf;have hi:=hid (fun W(hr:aH E W s)=>Ef E s W hr);generalize hnb:iV E.c s=nb at *;clear hnb;have gb:=(au.refl h).alloc (.cells bg 41);have ha:=aa.new w 41 bg;(have jc:w.heap.size+1<=(w.alloc (.cells bg 41)).heap.size:=by simp);(go_enter func321,ntmps321);(go_upto_region 1 with fail);change Code.wp _ _ _ _ (w.alloc (.cells bg 41));generalize w.alloc (.cells bg 41)=w1 at *;go_cut [42] (fun ho wx=>ho=.bool (GU types nb E.c s)/\Below w1 w1 wx)
 case first=>
  clear gd gs ha;have HN:=hid (fun W(hb:Below w1 w1 W)=>hi.out W (gb.rd.below hb));have g4:IntKind.i64.wrap ((s.at_:Int)+1)=(s.at_:Int)+1:=gQ _ (by omega);have k1:∀n:Wd (Below w1 w1),n.wd.cell? ⟨E.R,1,none⟩=some (.int .i64 s.at_):=fun n=>(gb.rd.below n.ok).cells.2.1;have k0:∀n:Wd (Below w1 w1),n.wd.cell? ⟨E.R,0,none⟩=some (.slice E.A E.c.toks.length E.cap):=fun n=>(gb.rd.below n.ok).cells.1;cases types with
  |false=>have M:Hid (GU false nb E.c s=false):=hid rfl;refine ei w1 ?_;(repeat(go_big_quiet_step (fail)));refine m7 ?_;intro n;go_wp2_with fail;go_meet;exact⟨qD Value.bool M.out.symm,n.ok⟩
  | true=>
   cases nb with
   |true=>have M:Hid (GU true true E.c s=false):=hid rfl;refine ei w1 ?_;(repeat(go_big_quiet_step ((go_at_call 324;rename_i n;refine(HN.out n.wd n.ok).mono ?_;rintro e w'⟨rfl,hb⟩;exact⟨rfl,⟨w',aE n.ok hb⟩,rfl⟩))));refine m7 ?_;intro n;go_wp2_with fail;go_meet;exact⟨qD Value.bool M.out.symm,n.ok⟩
   |false=>
    by_cases I:s.at_+1<E.c.toks.length
    case neg=>have M:Hid (GU true false E.c s=false):=hid (by unfold GU;rw[gV I];rfl);(have g1:decide ((s.at_:Int)+1<(E.c.toks.length:Int))=false:=by rw[gH];omega);refine ei w1 ?_;(repeat(go_big_quiet_step ((go_at_call 324;rename_i n;refine(HN.out n.wd n.ok).mono ?_;rintro e w'⟨rfl,hb⟩;exact⟨rfl,⟨w',aE n.ok hb⟩,rfl⟩))));refine m7 ?_;intro n;go_wp2_with fail;go_meet;exact⟨qD Value.bool M.out.symm,n.ok⟩
    case pos=>clear k0;obtain⟨b,off,hS⟩:=G1 gb.rd I;(have g1:decide ((s.at_:Int)+1<(E.c.toks.length:Int))=true:=by rw[jB];omega);(have g2:(0:Int)<=(s.at_:Int)+1:=by omega);(have g3:(s.at_:Int)+1<(E.c.toks.length:Int):=by omega);(have g5:((s.at_:Int)+1).toNat=s.at_+1:=by omega);have M:=(show GU true false E.c s = !((aj E.c (s.at_+1)).text.toList==[41])by unfold GU;rw[jK I];rfl);generalize GU true false E.c s=vv at *;generalize aj E.c (s.at_+1)=t at *;obtain⟨tk,tt,tp⟩:=t;simp only at *;have k0:∀n:Wd (Below w1 w1),n.wd.cell? ⟨E.R,0,none⟩=some (.slice (some ⟨b,off,none⟩) E.c.toks.length E.cap):=fun n=>(hS _ (gb.rd.below n.ok)).1;have k3:∀n:Wd (Below w1 w1),n.wd.cell? ⟨b,off+(s.at_+1)*3+1,none⟩=some (.string tt):=fun n=>(hS _ (gb.rd.below n.ok)).2.2.2;clear hS;cases h1:(tt.toList==[41]);all_goals have h2:(tt.toList != [41]) = !(tt.toList==[41]):=rfl;rw[h1]at h2 M;have M:=hid M;refine ei w1 ?_;(repeat(go_big_quiet_step ((go_at_call 324;rename_i n;refine(HN.out n.wd n.ok).mono ?_;rintro e w'⟨rfl,hb⟩;exact⟨rfl,⟨w',aE n.ok hb⟩,rfl⟩))));refine m7 ?_;intro n;go_wp2_with fail;go_meet;exact⟨qD Value.bool M.out.symm,n.ok⟩
 case rest=>
  obtain⟨rfl,gw⟩:=hcut;have J:=gb.step gw;have g6:=ha.bl gw;have jb:=gw.size;generalize wc=w2 at *;clear hi gb ha gw;cases gu:GU types nb E.c s with
  | true=>
   have HE:=hid (show((cN F p E.c s).bind fun t s1=>if iG E.c s1 then .ok t s1 else .fail (ar E.c s1))=res by rw[<-gd.out,gL gu]);clear gd gu;go_wp2_with fail;cases hP:cN F p E.c s with
   |out=>exact absurd HE.out.symm (by rw[hP];exact gs.out)
   |fail q=>refine(mV E F hF p _ s J.rd (by rw[hP];exact nofun)).mono ?_;rw[hP];rintro e z⟨rfl,g7⟩;unfold ag;exact⟨rfl,af (by rw[<-HE.out,hP];rfl) J.gr g7⟩
   |ok n s1=>
    have y:=hid (show(if iG E.c s1 then .ok n s1 else .fail (ar E.c s1))=res by rw[<-HE.out,hP];rfl);refine(mV E F hF p _ s J.rd (by rw[hP];exact nofun)).mono ?_;rw[hP];rintro e z⟨⟨v,rfl,M⟩,O⟩;obtain⟨A3,c3,rfl,hc⟩:=M.toC;have gq:=g6.grown O.gr;have gn:=J.trans O;have hs:=O.gr.size;have D:=(cH z (nv n A3 c3)).1;have gk:=aa.new z 41 (nv n A3 c3);have ge:=gn.step D;have gp:=gq.bl D;have gm:=M.keep (w':=z.alloc (.cells (nv n A3 c3) 41)) fun b _ I=>D.block b I;clear hP HE M hc gn gq g6 O D J;(go_upto_region 3 with fail);change Code.wp _ _ _ _ (z.alloc (.cells (nv n A3 c3) 41));generalize hXX:z.heap.size=X at *;generalize z.alloc (.cells (nv n A3 c3) 41)=w4 at *;go_wp2_with fail;refine(uh E s1 _ ge.rd).mono ?_;rintro e w5⟨rfl,ga⟩;have gg:=gp.bl ga.bel;have gj:=gk.bl ga.bel;have x:=ge.trans ga.moved;have gz:=gm.keep (w':=w5) fun b _ I=>ga.bel.block b I;have hq:=ga.bel.size;clear gp gk ge gm ga;cases hE:iG E.c s1 with
    |true=>have HF:Hid (res=.ok n s1):=hid (by rw[<-y.out,hE];rfl);clear y hE;obtain⟨x0,x1,x2,x3,-,-,-,-⟩:=ah gj;obtain⟨d0,d1,d2,d3,e0,e1,e2,e3⟩:=ah gg;go_wp2_with fail;refine av HF.out gz x gg (gA _) gl ?_ rfl (by rfl) rfl;intro b hb;constructor<;>omega
    |false=>go_wp2_with fail;refine(dh E s1 _ x.rd).mono ?_;rintro e w6⟨rfl,hw⟩;unfold ag;exact⟨rfl,af (by rw[<-y.out,hE];rfl) x.gr (ac _ hw)⟩
  | false=>
   have HE:=hid (show((nX F p E.c s).bind fun sg s1=>if types=true/\(sg.kids.headD cj).kids.length=0/\iG E.c s1=true then .ok sg s1
    else(be F E.c s1).bind fun b s2=>.ok (.mk 25 ⟨#[]⟩ [sg,b] p) s2)=res by rw[<-gd.out,gE (by rw[gu];decide)])
   clear gd gu;go_wp2_with fail;cases hP:nX F p E.c s with
   |out=>exact absurd HE.out.symm (by rw[hP];exact gs.out)
   |fail q=>refine(iB E F hF p _ s J.rd (by rw[hP];exact nofun)).mono ?_;rw[hP];rintro e z⟨rfl,g7⟩;unfold ag;exact⟨rfl,af (by rw[<-HE.out,hP];rfl) J.gr g7⟩
   | ok sg s1=>
    obtain⟨pr,rs,rfl⟩:=IU hP;have y:=hid (show(if types=true/\pr.kids.length=0/\iG E.c s1=true then .ok (.mk 12 ⟨#[]⟩ [pr,rs] p) s1
     else(be F E.c s1).bind fun b s2=>.ok (.mk 25 ⟨#[]⟩ [.mk 12 ⟨#[]⟩ [pr,rs] p,b] p) s2)=res by rw[<-HE.out,hP];rfl)
    refine(iB E F hF p _ s J.rd (by rw[hP];exact nofun)).mono ?_;rw[hP];rintro e z⟨⟨v,rfl,M⟩,O⟩;obtain⟨A3,c3,rfl,hc⟩:=M.toC;change aq _ _ (.agg #[.int .i64 12,.string ⟨#[]⟩,.slice A3 2 c3,.int .i64 p]) _ at M;obtain⟨kb,ko,kA,kc,rfl,je,h7,-,-,k2,-,-⟩:=(aq.kidsV M).kid 0 (show 0<2 by decide);change z.cell? ⟨kb,ko+0*4+2,none⟩=some (.slice kA pr.kids.length kc)at k2;rw[vC,kF]at k2;have gq:=g6.grown O.gr;have gn:=J.trans O;have hs:=O.gr.size;have D:Below z z (z.alloc (.cells #[.int .i64 12,.string ⟨#[]⟩,.slice (some ⟨kb,ko,none⟩) 2 c3,.int .i64 p] 41)):=(gC _ _).alloc (gA _) _;have gk:=aa.new z 41 #[.int .i64 12,.string ⟨#[]⟩,.slice (some ⟨kb,ko,none⟩) 2 c3,.int .i64 p];have ge:=gn.step D;have gp:=gq.bl D;have gm:=M.keep (w':=z.alloc (.cells #[.int .i64 12,.string ⟨#[]⟩,.slice (some ⟨kb,ko,none⟩) 2 c3,.int .i64 p] 41)) fun b _ I=>D.block b I;have he:=cell_kept D k2;have ja:=D.size;clear hP HE M hc gn gq g6 O D J k2;(go_upto_region 7 with fail);change Code.wp _ _ _ _ (z.alloc (.cells #[.int .i64 12,.string ⟨#[]⟩,.slice (some ⟨kb,ko,none⟩) 2 c3,.int .i64 p] 41));generalize hXX:z.heap.size=X at *;generalize z.alloc (.cells #[.int .i64 12,.string ⟨#[]⟩,.slice (some ⟨kb,ko,none⟩) 2 c3,.int .i64 p] 41)=w4 at *;go_cut [68] (fun hn wx=>hn=.bool (decide (types=true/\pr.kids.length=0/\iG E.c s1=true))/\Below w4 w4 wx)
    case first=>
     clear y gs;obtain⟨x0,x1,x2,x3,-,-,-,-⟩:=ah gk;have h6:=hid (uh E s1 _ ge.rd);cases types with
     |false=>go_wp2_with fail;go_meet;exact⟨qD Value.bool (by simp),gC _ _⟩
     |true=>
      by_cases hz:pr.kids.length=0
      case pos=>rw[hz]at he;go_wp2_with fail;refine h6.out.mono ?_;rintro e w5⟨rfl,ga⟩;go_wp2_with fail;go_meet;exact⟨qD Value.bool (by rw[hz];simp),ga.bel⟩
      case neg=>(have g9:((pr.kids.length:Int)==0)=false:=by rw[gD];omega);go_wp2_with fail;go_meet;exact⟨qD Value.bool (by rw[eq_comm,gH];exact fun h=>hz h.2.1),gC _ _⟩
    case rest=>
     obtain⟨rfl,gi⟩:=hcut;have gg:=gp.bl gi;have gj:=gk.bl gi;have x:=ge.step gi;have gz:=gm.keep (w':=wc) fun b _ I=>gi.block b I;have hq:=gi.size;clear gp gk ge gm gi he;by_cases hD:types=true/\pr.kids.length=0/\iG E.c s1=true
     case pos=>have HF:Hid (res=.ok (.mk 12 ⟨#[]⟩ [pr,rs] p) s1):=hid (by rw[<-y.out,gL hD]);rw[jK hD];clear y hD;obtain⟨x0,x1,x2,x3,-,-,-,-⟩:=ah gj;obtain⟨d0,d1,d2,d3,e0,e1,e2,e3⟩:=ah gg;go_wp2_with fail;refine av HF.out gz x gg (gA _) gl ?_ rfl (by rfl) rfl;intro b hb;constructor<;>omega
     case neg=>
      have gt:=hid (show((be F E.c s1).bind fun b s2=>.ok (.mk 25 ⟨#[]⟩ [.mk 12 ⟨#[]⟩ [pr,rs] p,b] p) s2)=res by rw[<-y.out,gE hD]);rw[gV hD];clear y hD;go_wp2_with fail;have h4:aY (fun b=>w.heap.size+1<=b) wc (.mk 12 ⟨#[]⟩ [pr,rs] p) [.int .i64 12,.string ⟨#[]⟩,.slice (some ⟨kb,ko,none⟩) 2 c3,.int .i64 p]:=(aq.cells gz).mono (fun b hb _=>by omega);(have gx:X≠w.heap.size:=by omega);(have hy:X≠E.R:=by omega);have s7:=oQ gj;have hm:=oQ gj.drew;cases hB:be F E.c s1 with
      |out=>exact absurd gt.out.symm (by rw[hB];exact gs.out)
      |fail q=>have HC:=hid (fun W(hr:aH E W s1)=>cQ E F hF W s1 hr (by rw[hB];exact nofun));have HF:Hid (res=.fail q):=hid (by rw[<-gt.out,hB];rfl);rw[hB]at HC;clear gt hB;let SS:World->Prop:=fun w'=>w'.cell? ⟨X,0,none⟩=some (.int .i64 12)/\w'.cell? ⟨X,1,none⟩=some (.string ⟨#[]⟩)/\w'.cell? ⟨X,2,none⟩=some (.slice (some ⟨kb,ko,none⟩) 2 c3)/\w'.cell? ⟨X,3,none⟩=some (.int .i64 p);have h5:SS wc.drew:=s7;(refine jS (S:=SS) (by kernel_rfl) h5 ?_;intro g8;refine dF 0 g8 ?_;refine dF 1 g8 ?_;refine dF 2 g8 ?_;refine yd 3 fun K hK=>?_;go_simp);refine(HC.out _ x.drew.rd).mono ?_;rintro e w8⟨rfl,hu⟩;unfold ag;exact⟨rfl,af HF.out x.drew.gr hu⟩
      | ok b s2=>
       have HC:=hid (fun W(hr:aH E W s1)=>cQ E F hF W s1 hr (by rw[hB];exact nofun));have HF:Hid (res=.ok (.mk 25 ⟨#[]⟩ [.mk 12 ⟨#[]⟩ [pr,rs] p,b] p) s2):=hid (by rw[<-gt.out,hB];rfl);rw[hB]at HC;clear gt hB;go_region_held3 (fun w'=>w'.cell? ⟨X,0,none⟩=some (.int .i64 12)/\w'.cell? ⟨X,1,none⟩=some (.string ⟨#[]⟩)/\w'.cell? ⟨X,2,none⟩=some (.slice (some ⟨kb,ko,none⟩) 2 c3)/\w'.cell? ⟨X,3,none⟩=some (.int .i64 p))
        (first|with_reducible exact s9 _ _ _ _|with_reducible exact hk|with_reducible exact hl _|with_reducible exact s8|with_reducible exact hm|with_reducible exact s7)
        (first
         |(go_at_call 143;refine(HC.out _ x.drew.rd).mono ?_;rintro e w8⟨⟨v,rfl,hp⟩,gh⟩;obtain⟨An,cn,rfl,h3⟩:=hp.toC;have gy:=gj.drew.grown gh.gr (fun e=>hy (by injection e));have s8:=oQ gy;have hl:=fun o:Obj=>oQ (gy.alloc o))
         |(go_at_call 91;refine(aI _ _ _ _ _ ⟨_,_,_,rfl⟩).mono ?_;rintro e w9⟨rfl,gv⟩;have hg:=(gy.alloc _).below gv (by have:=gy.lt;simp;omega);have hk:=oQ hg;have s9:=fun a b c d:Value=>oQ ((((hg.far (p:=⟨w,0,none⟩) (by exact gx) a).far (p:=⟨w,1,none⟩) (by exact gx) b).far (p:=⟨w,2,none⟩) (by exact gx) c).far (p:=⟨w,3,none⟩) (by exact gx) d);have hh:=((gg.drew.grown gh.gr).alloc _).below gv (by have:=(gg.drew.grown gh.gr).lt;simp;omega);obtain⟨g0,g1,g2,g3,k0,k1,k2,k3⟩:=ah hh))
       (all_goals go_wp2_with fail);all_goals have h9:wc.heap.size<=w8.heap.size:=gh.gr.size;have h0:=(h4.keep (w:=wc) (w':=wc.drew) (fun _ _ _=>rfl)).keep (w':=w8) (ak.of_grown (X:=fun b=>w.heap.size+1<=b) gh.gr).block;have h8:wc.drew.heap.size=wc.heap.size:=rfl;have hV:=aq.make 2 rfl (ae.cons h0 (ae.one (h3.mono (Y:=fun b=>w.heap.size+1<=b) fun b hb _=>by omega))) 25 ⟨#[]⟩ p gv;refine av HF.out hV (((x.drew.trans gh).alloc _).step gv) hh (gA _) gl ?_ rfl (by rfl) rfl;rintro b(⟨hb,_⟩|rfl)<;>constructor<;>omega
end
section
open Go.RowKit Go.Lib Go.Proofs
structure nR(B:Nat)(X:Nat->Prop)(L:Nat)(w:World)(v:Value)(l:List Nd):Prop where
 out:∃xs,w.ownsRow B 41 4 v l.length xs/\ae (fun b=>(X b\/B<=b)/\some b≠v.ownBlock/\b≠L) w l xs
 far:∀g,v.ownBlock=some g->g≠L
section
variable {B L:Nat} {X:Nat->Prop} {w w':World} {v:Value} {l:List Nd}
theorem nR.nil(B:Nat)(X:Nat->Prop)(L:Nat)(w:World):nR B X L w (.slice none 0 0) []:=⟨⟨[],kP _ _ _ _,ae.nil⟩,fun g h=>by simp[Value.ownBlock]at h⟩
theorem nR.lt(h:nR B X L w v l):∀g,v.ownBlock=some g->B<=g/\g<w.heap.size:=by obtain⟨xs,D,_⟩:=h.out;exact fun g hg=>D.lt g hg
theorem nR.keep(h:nR B X L w v l)(J:∀b,(X b\/B<=b)->b≠L->b<w.heap.size->w'.heap[b]? = w.heap[b]?):nR B X L w' v l:=by
 obtain⟨xs,O,q⟩:=h.out;refine⟨⟨xs,⟨O.1,?_⟩,q.keep fun b hb D=>J b hb.1 hb.2.2 D⟩,h.far⟩;rcases O.2 with x|⟨g,cap,cur,e,M,I,r⟩
 ·exact .inl x
 ·refine .inr ⟨g,cap,cur,e,M,?_,r⟩;have D:g<w.heap.size:=by
   rcases kN g w.heap.size with D|hge
   ·exact D
   ·rw[kH hge]at I;cases I
  exact(J g (.inr M) (h.far g (by rw[e];rfl)) D).trans I
theorem nR.values(h:nR B X L w v l):cS (fun b=>X b\/B<=b) w v l:=by
 obtain⟨xs,D,J⟩:=h.out;rcases D.2 with⟨rfl,z⟩|⟨g,cap,cur,rfl,y,x,I,_,O,M⟩
 ·exact⟨none,0,xs,by rw[z],by omega,⟨D.1,fun h=>by omega⟩,J.mono fun b hb _=>hb.1⟩
 ·refine⟨_,cap,xs,rfl,I,⟨D.1,fun _=>⟨g,0,rfl,.inr y,fun j u hu=>?_⟩⟩,J.mono fun b hb _=>hb.1⟩;(have q:j<l.length*4:=by have:=(List.getElem?_eq_some_iff.1 hu).1;rw[D.1]at this;exact this);rw[kL];unfold World.cell?;rw[x];simp only[qT,gX,kK];rw[<-M,vp q]at hu;rw[<-hu];simp
theorem nR.form(h:nR B X L w v l):∃A c,v=.slice A l.length c/\l.length<=c:=by obtain⟨A,c,xs,e,D,_⟩:=h.values;exact⟨A,c,e,D⟩
end
theorem IV{o:Oper}{a:Act}{K:Act->World->Prop}{Q:Exit->Act->World->Prop}(s x:Operand)
  (ho:o.op=.call { callee:=.builtin .append,args:=#[s,x],argTypes:=#[39,39] })
  (B S L:Nat)(X:Nat->Prop)(w1:World)(u:Value)(l:List Nd)(n:Nd)(A:Option Addr)(cap:Nat)(hs:a.eval s=u)(T:Nat)(hx:a.eval x=.slice (some ⟨T,0,none⟩) 1 1)(hT:w1.heap.size=T)
  (hO:nR B X L w1 u l)(ga:∀b,X b->b<B)(hB:B<=S)(hS:S<=w1.heap.size)(gj:B<=L)(gi:L<S)(hu:∀g,u.ownBlock=some g->g<S)(hl:l.length<=1000000)
  (hV:aY (fun b=>X b\/S<=b) w1 n [.int .i64 n.kind,.string n.text,.slice A n.kids.length cap,.int .i64 n.pos])
  (h:∀g c w2,nR B X L w2 (.slice (some ⟨g,0,none⟩) (l.length+1) c) (l++[n])->Below B w1 w2->w2.heap[L]? = w1.heap[L]? ->K (a.put o.dst (.slice (some ⟨g,0,none⟩) (l.length+1) c)) w2):
  o.wp prog a (w1.alloc (.cells (nv n A cap) 41)) K Q:=by
 subst hT;obtain⟨i0,hi,ge,gd,gb⟩:=qr pw;obtain⟨xs,q,gg⟩:=hO.out;refine vE _ s x 39 ho B 41 i0 _ 4 56 underlying39 hi ge gd gb rfl (by omega) u l.length xs hs (q.alloc _) ⟨w1,0,none⟩ 1 1 [.int .i64 n.kind,.string n.text,.slice A n.kids.length cap,.int .i64 n.pos] hx rfl
  (qQ (cs:=(nv n A cap)) (kJ _ _)) (rf n A cap) (by omega) (by unfold maxLen;omega) (by omega) (by rw[gP];omega) _ rfl ?_
 intro g c w2 hown1 M z _;have O:∀g,u.ownBlock=some g->B<=g:=fun g M=>(hO.lt g M).1;have I:∀b,b<w1.heap.size->some b≠u.ownBlock->w2.heap[b]? = w1.heap[b]? :=fun b hb hne=>(M.block b (by rw[gP];omega) hne).trans (gS w1 _ b hb);have gh:w1.heap.size<=w2.heap.size:=gM (by rw[gP];omega) M.size;have y:g≠L:=by
  rcases z with e|e
  ·exact hO.far g e
  ·rw[gP]at e;omega
 have J:ae (fun b=>(X b\/B<=b)/\some b≠(Value.slice (some ⟨g,0,none⟩) (l.length+1) c).ownBlock/\b≠L) w2 (l++[n]) (xs++[.int .i64 n.kind,.string n.text,.slice A n.kids.length cap,.int .i64 n.pos]):=by
  have h1:ae (fun b=>(X b\/B<=b)/\some b≠u.ownBlock/\b≠L/\b<w1.heap.size) w1 (l++[n]) (xs++[.int .i64 n.kind,.string n.text,.slice A n.kids.length cap,.int .i64 n.pos]):=
   (gg.mono fun b hb D=>⟨hb.1,hb.2.1,hb.2.2,D⟩).app (ae.one (hV.mono fun b hb D=>⟨hb.imp id fun hb=>gM hB hb,fun e=>by
    have h1:=hu b e.symm;have h2:=O b e.symm;rcases hb with hb|hb
    ·have:=ga b hb;omega
    ·omega,fun hz=>by
    rcases hb with hb|hb
    ·have:=ga b hb;omega
    ·omega,D⟩))
  have h2:=h1.keep (w':=w2) fun b hb D=>I b D hb.2.1;refine h2.mono fun b hb _=>⟨hb.1,fun e=>?_,hb.2.2.1⟩;(have e3:b=g:=by simpa[Value.ownBlock]using e);subst e3;rcases z with e|e
  ·exact hb.2.1 e.symm
  ·rw[gP]at e;have:=hb.2.2.2;omega
 refine h g c w2 ⟨⟨_,by rw[gJ];exact hown1,J⟩,fun g' hg'=>?_⟩ ⟨M.os,M.tape,M.output,gh,fun b hb=>?_⟩ ?_
 ·(have e3:g=g':=by simpa[Value.ownBlock]using hg');rw[<-e3];exact y
 ·exact I b (by omega) fun e=>by have:=O b e.symm;omega
 ·exact I L (by omega) fun e=>hO.far L e.symm rfl
theorem Bb{ops:Array Oper}{rest:List Oper}{o:Oper}{a:Act}{Q:Exit->Act->World->Prop}(D:o.guard=none)(s x:Operand)
  (z:o.op=.call { callee:=.builtin .append,args:=#[s,x],argTypes:=#[39,39] })
  (B S L:Nat)(X:Nat->Prop)(w1:World)(u:Value)(l:List Nd)(n:Nd)(A:Option Addr)(cap:Nat)(y:a.eval s=u)(T:Nat)(O:a.eval x=.slice (some ⟨T,0,none⟩) 1 1)(hT:w1.heap.size=T)
  (hO:nR B X L w1 u l)(I:∀b,X b->b<B)(hB:B<=S)(hS:S<=w1.heap.size)(M:B<=L)(J:L<S)(q:∀g,u.ownBlock=some g->g<S)(hl:l.length<=1000000)
  (hV:aY (fun b=>X b\/S<=b) w1 n [.int .i64 n.kind,.string n.text,.slice A n.kids.length cap,.int .i64 n.pos])
  (h:∀g c w2,nR B X L w2 (.slice (some ⟨g,0,none⟩) (l.length+1) c) (l++[n])->Below B w1 w2->w2.heap[L]? = w1.heap[L]? ->wpList prog ops Q rest (a.put o.dst (.slice (some ⟨g,0,none⟩) (l.length+1) c)) w2):
  wpList prog ops Q (o::rest) a (w1.alloc (.cells (nv n A cap) 41)):=
 vJ D fun _ hK=>IV s x z B S L X w1 u l n A cap y T O hT hO I hB hS M J q hl hV fun g c w2 h1 h2 h3=>hK _ _ (h g c w2 h1 h2 h3)
end
section
open Go.RowKit Go.Lib Go.Proofs
attribute [local go_sem ↓] Go.wp_at_zero Go.wp_at_succ
attribute [local go_sem] aZ a6 a7 a8
mutual
def Ix:Nd->Prop
 | .mk k _ l _=>(k=22->∃x r,l=x::r/\r≠[]/\x.kind≠10)/\l.length<=1000000/\tY l
def tY:List Nd->Prop
 |[]=>True
 |x::r=>Ix x/\tY r
end
theorem tY.mem{l:List Nd}(h:tY l):∀i(D:i<l.length),Ix l[i]:=by
 induction l with
 |nil=>intro i D;simp at D
 |cons x r ih=>
  unfold tY at h;intro i D;cases i with
  |zero=>exact h.1
  |succ i=>exact ih h.2 i (by simpa using D)
theorem Ix.kids{n:Nd}(h:Ix n):(n.kind=22->∃x r,n.kids=x::r/\r≠[]/\x.kind≠10)/\n.kids.length<=1000000/\tY n.kids:=by cases n;unfold Ix at h;exact h
theorem CE{n:Nd}(D:n.kind=10\/n.kind=11\/n.kind=12):cR n=some n:=by cases n;unfold cR;exact gL D
theorem CF{n:Nd}(D:¬ (n.kind=10\/n.kind=11\/n.kind=12))(h:n.kind=18):cR n=some (.mk 10 n.text [] n.pos):=by cases n;unfold cR;exact(gE D).trans (gL h)
theorem CG{n:Nd}(D:¬ (n.kind=10\/n.kind=11\/n.kind=12))(h:n.kind≠18)(I:n.kind≠22):cR n=none:=by cases n;unfold cR;exact(gE D).trans ((gE h).trans (gE I))
theorem Gc{t:ByteArray}{x:Nd}{r:List Nd}{a:Int}:cR (.mk 22 t (x::r) a)=match cR x with
  |some m=>if m.kind=10/\m.kids.length=0 then(dw r).map fun r'=>.mk m.kind m.text r' m.pos else none
  |none=>none:=by
 rw[cR];rw[gE (by decide),gE (by decide),gL rfl];cases cR x with
 |none=>rfl
 |some m=>cases m;rfl
theorem pP{fn:Func}{q r:Tmp}(J:fn.results = #[.cell q 41,.tmp r])(tmps:Array Value){w:World}{g:Nat}{a b c d v:Value}(O:tmps.getD q undef=.pointer (some ⟨g,0,none⟩))(M:tmps.getD r undef=v)(hb:aa w g 41 #[a,b,c,d]):
  (results fn tmps).run prog w=.ok (.tuple #[.agg #[a,b,c,d],v]) w:=by obtain⟨z,y,x,h,_,_,_,_⟩:=ah hb;unfold results;rw[J];(have I:tmps[q]?.getD undef=.pointer (some ⟨g,0,none⟩):=by simpa using O);(have D:tmps[r]?.getD undef=v:=by simpa using M);simp[I,D,go_sem,z,y,x,h]
def wn(X:Nat->Prop)(w:World)(r:Option Nd)(k10:Prop)(e:Ending)(w':World):Prop:=
 Below w w w'/\match r with
 |some m=>∃A c,e=.returned (.tuple #[.agg (nv m A c),.bool true]) /\
  aq (fun b=>X b\/w.heap.size<=b) w' (.agg (nv m A c)) m/\(k10->m.kind=10->m.kids=[]->A=none/\c=0)
 |none=>e=.returned (.tuple #[.agg bg,.bool false])
theorem wq{B:Nat}{w wk:World}{g:Nat}(h:Below B w wk)(D:B<=g)(a b c d:Value):Below B w (cM wk g a b c d):=
 (((h.setCell (p:=⟨g,0,none⟩) D a).setCell (p:=⟨g,1,none⟩) D b).setCell (p:=⟨g,2,none⟩) D c).setCell (p:=⟨g,3,none⟩) D d
theorem ot{X:Nat->Prop}{w wk:World}{m:Nd}{r:Option Nd}{k10:Prop}{A:Option Addr}{c:Nat}{z0 O M J:Value}{g q rr:Nat}{fn:Func}{a:Act}(y:r=some m)
  (h:aq (fun b=>(X b\/w.heap.size<=b)/\b≠g) wk (.agg (nv m A c)) m)(hb:Below w w wk)(hB:aa wk g 41 #[z0,O,M,J])(hg:w.heap.size<=g)
  (z:k10->m.kind=10->m.kids=[]->A=none/\c=0)(I:fn.results = #[.cell q 41,.tmp rr])(x:a.tmps.getD q undef=.pointer (some ⟨g,0,none⟩))(D:a.tmps.getD rr undef=.bool true)(hd:a.defers=[]):
  bodyPost prog fn (wn X w r k10) .ret a (cM wk g (.int .i64 m.kind) (.string m.text) (.slice A m.kids.length c) (.int .i64 m.pos)):=by refine jD (pP I _ x D (cJ hB _ _ _ _)) hd ?_;unfold wn;rw[y];exact⟨wq hb hg _ _ _ _,A,c,rfl,(h.kept (cA (fun b hb=>hb.2) _ _ _ _)).mono fun b hb _=>hb.1,z⟩
theorem ov{X:Nat->Prop}{w wk:World}{r:Option Nd}{k10:Prop}{z0 z1 z2 z3:Value}{g q rr:Nat}{fn:Func}{a:Act}(M:r=none)
  (hb:Below w w wk)(h:aa wk g 41 #[z0,z1,z2,z3])(O:w.heap.size<=g)
  (I:fn.results = #[.cell q 41,.tmp rr])(J:a.tmps.getD q undef=.pointer (some ⟨g,0,none⟩))(D:a.tmps.getD rr undef=.bool false)(hd:a.defers=[]):
  bodyPost prog fn (wn X w r k10) .ret a (cM wk g (.int .i64 0) (.string ⟨#[]⟩) (.slice none 0 0) (.int .i64 0)):=by refine jD (pP I _ J D (cJ h _ _ _ _)) hd ?_;unfold wn;rw[M];exact⟨wq hb O _ _ _ _,rfl⟩
theorem Eg(N:Nat):∀(n:Nd),SizeOf.sizeOf n<=N->Ix n->∀(X:Nat->Prop)(w:World)(v:Value),aq X w v n ->
  Calls prog 319 #[v] w (wn X w (cR n) (n.kind≠10)):=by
 induction N with
 |zero=>intro n h;exact absurd h (by cases n;simp)
 | succ N ih=>
  intro n hN hI X w v hv;obtain⟨A,cp,rfl,hC⟩:=hv.toC;generalize hres:cR n=res at *;have gv:=(aa.new w 41 (nv n A cp)).alloc (.cells bg 41);have ga:aa ((w.alloc (.cells (nv n A cp) 41)).alloc (.cells bg 41)) (w.heap.size+1) 41 bg:=aa.new_at (by simp) _ _;have O:Below w w ((w.alloc (.cells (nv n A cp) 41)).alloc (.cells bg 41)):=bel;(have kk:((w.alloc (.cells (nv n A cp) 41)).alloc (.cells bg 41)).heap.size=w.heap.size+2:=by simp);have gu:=(hv.mono (Y:=fun b=>X b/\b<w.heap.size) fun b hb J=>⟨hb,J⟩).below (O.mono (gA _));clear hC hv;(go_enter func319,ntmps319);(go_upto_region 1 with fail);change Code.wp _ _ _ _ ((w.alloc (.cells (nv n A cp) 41)).alloc (.cells bg 41));generalize(w.alloc (.cells (nv n A cp) 41)).alloc (.cells bg 41)=w0 at *;obtain⟨x0,x1,x2,x3,-,-,-,-⟩:=ah gv;obtain⟨d0,d1,d2,d3,e0,e1,e2,e3⟩:=ah ga;by_cases hk:n.kind=10\/n.kind=11\/n.kind=12
  case pos=>
   have HF:Hid (res=some n):=hid (by rw[<-hres];exact CE hk);have HK:Hid (n.kind≠10->n.kind=10->n.kids=[]->A=none/\cp=0):=hid (fun h1 h2=>absurd h2 h1);have hp:=gu.mono (Y:=fun b=>(X b\/w.heap.size<=b)/\b≠w.heap.size+1) fun b hb _=>⟨.inl hb.1,by have:=hb.2;omega⟩;clear hres;by_cases gs:n.kind=10
   ·have hz:(n.kind==10)=true:=beq_iff_eq.2 gs;clear hk gs;go_wp2_with fail;exact ot HF.out hp O ga (jC _) HK.out rfl (by rfl) (by rfl) rfl
   ·have hz:(n.kind==10)=false:=beq_eq_false_iff_ne.2 gs;by_cases gy:n.kind=11
    ·have hw:(n.kind==11)=true:=beq_iff_eq.2 gy;clear hk gs gy;go_wp2_with fail;exact ot HF.out hp O ga (jC _) HK.out rfl (by rfl) (by rfl) rfl
    ·have hw:(n.kind==11)=false:=beq_eq_false_iff_ne.2 gy;have jr:(n.kind==12)=true:=beq_iff_eq.2 (by omega);clear hk gs gy;go_wp2_with fail;exact ot HF.out hp O ga (jC _) HK.out rfl (by rfl) (by rfl) rfl
  have hz:(n.kind==10)=false:=beq_eq_false_iff_ne.2 (by omega);have hw:(n.kind==11)=false:=beq_eq_false_iff_ne.2 (by omega);have jr:(n.kind==12)=false:=beq_eq_false_iff_ne.2 (by omega);by_cases ge:n.kind=18
  ·have HF:=hid (show res=some (.mk 10 n.text [] n.pos)by rw[<-hres];exact CF hk ge);have jq:(n.kind==18)=true:=beq_iff_eq.2 ge;clear hres hk ge;go_wp2_with fail;refine(aI _ _ _ _ _ ⟨_,_,_,rfl⟩).mono ?_;rintro e w1⟨rfl,I⟩;have gd:=ga.below I (by omega);have gp:=O.trans (I.mono (by omega));clear x0 x1 x2 x3 d0 d1 d2 d3 e0 e1 e2 e3;obtain⟨d0,d1,d2,d3,e0,e1,e2,e3⟩:=ah gd;go_wp2_with fail;exact ot (m:=.mk 10 n.text [] n.pos) HF.out (aq.leaf 10 n.text n.pos) gp gd (jC _) (fun _ _ _=>⟨rfl,rfl⟩) rfl (by rfl) (by rfl) rfl
  have jq:(n.kind==18)=false:=beq_eq_false_iff_ne.2 ge;by_cases gq:n.kind=22
  case neg=>have HF:Hid (res=none):=hid (by rw[<-hres];exact CG hk ge gq);have jp:(n.kind==22)=false:=beq_eq_false_iff_ne.2 gq;clear hres hk ge gq;go_wp2_with fail;exact ov HF.out O ga (jC _) rfl (by rfl) (by rfl) rfl
  have jp:(n.kind==22)=true:=beq_iff_eq.2 gq;obtain⟨x,r,js,jz,h4⟩:=hI.kids.1 gq;have kn:=hI.kids.2.1;have gw:=hI.kids.2.2;obtain⟨nk,nt,nl,np⟩:=n;simp only[Nd.kind_mk,Nd.text_mk,Nd.kids_mk,Nd.pos_mk]at *;subst js;clear hI hk ge;rw[gq]at hres;rw[Gc]at hres;have gi:=hid hres;clear hres;(have ja:SizeOf.sizeOf x<=N:=by simp at hN;omega);(have jb:∀y∈r,SizeOf.sizeOf y<=N:=fun y hy=>by have:=List.sizeOf_lt_of_mem hy;simp at hN;omega);have ku:=hid gw;have ka:Ix x:=gw.1;have kb:∀i(hi:i<r.length),Ix r[i]:=tY.mem gw.2;have ho:cS (fun b=>X b/\b<w.heap.size) w0 (.slice A (x::r).length cp) (x::r):=aq.kidsV gu;(have kp:r.length+1<=cp:=by obtain⟨A9,c9,ki,e9,h9,-⟩:=ho;injection e9 with _ _ e9;rw[e9];exact h9);have km:0<r.length:=List.length_pos_iff.2 jz;(have kq:¬ cp=1:=by omega);obtain⟨b,off,A1,c1,rfl,j7,-,hm,hl,hh,hf,hn⟩:=ho.kid 0 (by simp);have ha:∀i(hi:i<r.length)W,Below w.heap.size w0 W->∃A1 c1,W.cell? ⟨b,off+4+i*4,none⟩=some (.int .i64 r[i].kind)/\W.cell? ⟨b,off+4+i*4+1,none⟩=some (.string r[i].text) /\
    W.cell? ⟨b,off+4+i*4+2,none⟩=some (.slice A1 r[i].kids.length c1)/\W.cell? ⟨b,off+4+i*4+3,none⟩=some (.int .i64 r[i].pos) /\
    aq (fun b=>X b/\b<w.heap.size) W (.agg #[.int .i64 r[i].kind,.string r[i].text,.slice A1 r[i].kids.length c1,.int .i64 r[i].pos]) r[i]:=by intro i hi W hW;have hV:=gu.keep (w':=W) fun b hb _=>hW.block b hb.2;have j5:cS (fun b=>X b/\b<w.heap.size) W (.slice (some ⟨b,off,none⟩) (x::r).length cp) (x::r):=aq.kidsV hV;obtain⟨b',off',A2,c2,eA,-,-,j0,j1,j2,j3,ju⟩:=j5.kid (i+1) (by simp;omega);injection eA with eA;injection eA with eA1 eA2;subst eA1 eA2;(have ea:off+(i+1)*4=off+4+i*4:=by omega);rw[ea]at j0 j1 j2 j3;exact⟨A2,c2,j0,j1,j2,j3,ju⟩
  simp only[vC,kF,vB]at hm hl hh hf hn;have HK:=hid ha;have kg:b<w.heap.size:=j7.2;clear ha ho gu gw;have hq:(x::r).length=r.length+1:=rfl;generalize(x::r).length=q at *;(have ko:(0:Int)<(q:Int):=by omega);go_wp2_with fail;refine(ih x ja ka _ _ _ hn).mono ?_;cases hA:cR x with
  |none=>have HF:Hid (res=none):=hid (by rw[<-gi.out,hA]);rintro e w1⟨I,rfl⟩;unfold bg;have jd:=I.size;have gd:=ga.below I (by omega);have gp:=O.trans (I.mono (by omega));have gb:=gd.alloc (.cells bg 41);have gn:=gp.alloc (by omega) (.cells bg 41);unfold bg at gb gn;clear x0 x1 x2 x3 d0 d1 d2 d3 e0 e1 e2 e3 hm hl hh hf ga gd gv gi;obtain⟨d0,d1,d2,d3,e0,e1,e2,e3⟩:=ah gb;go_wp2_with fail;exact ov HF.out gn gb (jC _) rfl (by rfl) (by rfl) rfl
  | some m=>
   have gz:=hid (show(if m.kind=10/\m.kids.length=0 then(dw r).map fun r'=>.mk m.kind m.text r' m.pos else none)=res by rw[<-gi.out,hA]);rintro e w1⟨I,A3,c3,rfl,jt,gh⟩;have gd:=ga.below I (by omega);have ji:=gv.below I (by omega);have gp:=O.trans (I.mono (by omega));have he:Below (w.heap.size+2) w0 w1:=I.mono (by omega);have jd:=I.size;have gb:=gd.alloc (.cells (nv m A3 c3) 41);have jh:=ji.alloc (.cells (nv m A3 c3) 41);have gl:=aa.new w1 41 (nv m A3 c3);have gn:=gp.alloc (by omega) (.cells (nv m A3 c3) 41);have hc:=he.alloc (by omega) (.cells (nv m A3 c3) 41);(have jy:(w1.alloc (.cells (nv m A3 c3) 41)).heap.size=w1.heap.size+1:=by simp);clear x0 x1 x2 x3 d0 d1 d2 d3 e0 e1 e2 e3 hm hl hh hf ga gd gv ji gi gp he I hn jt;(go_upto_region 10 with fail);change Code.wp _ _ _ _ (w1.alloc (.cells (nv m A3 c3) 41));generalize hLL:w1.heap.size=L at *;generalize w1.alloc (.cells (nv m A3 c3) 41)=w2 at *;clear hLL;obtain⟨x0,x1,x2,x3,-,-,-,-⟩:=ah jh;obtain⟨d0,d1,d2,d3,e0,e1,e2,e3⟩:=ah gb;obtain⟨y0,y1,y2,y3,f0,f1,f2,f3⟩:=ah gl;by_cases D:m.kind=10
   case neg=>have HF:Hid (res=none):=hid (by rw[<-gz.out,gE (fun h=>D h.1)]);have g1:(m.kind != 10)=true:=bne_iff_ne.2 D;have g2:(m.kind==10)=false:=beq_eq_false_iff_ne.2 D;clear D gh;go_wp2_with fail;exact ov HF.out gn gb (jC _) rfl (by rfl) (by rfl) rfl
   (have g1:(m.kind != 10)=false:=by rw[D];rfl);(have g2:(m.kind==10)=true:=by rw[D];rfl);by_cases gr:m.kids.length=0
   case neg=>have HF:Hid (res=none):=hid (by rw[<-gz.out,gE (fun h=>gr h.2)]);(have g3:decide ((m.kids.length:Int)>0)=true:=by rw[jB];omega);(have g4:(0:Int)<(m.kids.length:Int):=by omega);clear D gh;go_wp2_with fail;exact ov HF.out gn gb (jC _) rfl (by rfl) (by rfl) rfl
   obtain⟨rfl,rfl⟩:=gh h4 D (jI gr);have HF:=hid (show(dw r).map (fun r'=>.mk m.kind m.text r' m.pos)=res by rw[<-gz.out,gL ⟨D,gr⟩]);unfold nv at gl;rw[gr]at gl y2;clear D gr gz gh;have jj:nR (w.heap.size+2) (fun b=>X b/\b<w.heap.size) L w2 (.slice none 0 0) []:=nR.nil _ _ _ _;(have jc:w.heap.size+2<=L:=by omega);(have kl:r.length<=1000000:=by omega);generalize hmk:m.kind=mk at *;generalize hmt:m.text=mt at *;generalize hmp:m.pos=mp at *;go_wp2_with fail;clear x0 x1 x2 x3 d0 d1 d2 d3 e0 e1 e2 e3 y0 y1 y3 f0 f1 f2 f3 y2 gn jy jd jh;go_loopg [52] r.length (fun gg jo wr=>∃(j:Nat)(acc:List Nd)(A4:Option Addr)(c4:Nat),jo=.int .i64 (j:Int)/\j+gg=r.length/\acc.length<=j/\nR (w.heap.size+2) (fun b=>X b/\b<w.heap.size) L wr (.slice A4 acc.length c4) acc /\
    aa wr L 41 #[.int .i64 mk,.string mt,.slice A4 acc.length c4,.int .i64 mp]/\aa wr (w.heap.size+1) 41 bg/\Below (w.heap.size+2) w0 wr/\L<wr.heap.size/\(acc=[]->A4=none/\c4=0)/\dw r=(dw (r.drop j)).map fun z=>acc++z)
   case atStart=>exact⟨0,[],none,0,rfl,by omega,by simp,jj,gl,gb,hc,gl.lt,fun _=>⟨rfl,rfl⟩,by simp⟩
   case round=>
    clear jj gl gb hc;obtain⟨j,acc,A4,c4,rfl,hj,kf,hO,hL,hG,hB,ks,j4,gj⟩:=hrel;have jm:=O.trans (hB.mono (by omega));obtain⟨d0,d1,d2,d3,e0,e1,e2,e3⟩:=ah hG;obtain⟨y0,y1,y2,y3,f0,f1,f2,f3⟩:=ah hL;by_cases gt:j<r.length
    case neg=>
     (have ej:j=r.length:=by omega);(have g5:¬ (j:Int)<(r.length:Int):=by omega);have g6:decide ((j:Int)<(r.length:Int))=false:=gV g5;have HE:=hid (show res=some (.mk mk mt acc mp)by rw[<-HF.out,gj,jZ (by omega)];show some (Nd.mk mk mt (acc++[]) mp)=_;rw[vy]);have hV:=(aq.of_slice hO.values mk mt mp).mono (Y:=fun b=>(X b\/w.heap.size<=b)/\b≠w.heap.size+1) fun b hb _=>by
      rcases hb with⟨h1,h2⟩|hb
      ·exact⟨.inl h1,by omega⟩
      ·exact⟨.inr (by omega),by omega⟩
     clear gj HF;go_wp2_with fail;exact ot (m:=.mk mk mt acc mp) HE.out hV jm hG (jC _) (fun _ _ h=>j4 h) rfl (by rfl) (by rfl) rfl
    case pos=>
     (have g5:(j:Int)<(r.length:Int):=by omega);have g6:decide ((j:Int)<(r.length:Int))=true:=jK g5;(have g7:(0:Int)<=(j:Int):=by omega);have g8:IntKind.i64.wrap ((j:Int)+1)=(j:Int)+1:=gQ _ (by omega);obtain⟨A5,c5,k0,k1,k2,k3,h7⟩:=HK.out j gt wr (hB.mono (by omega));have je:r.drop j=r[j]::r.drop (j+1):=jX gt;have h8:=jb r[j] (jF gt);have j9:=kb j gt;generalize r[j]=y at *;have hr:=hO.keep (w':=wr.alloc (.cells (nv y A5 c5) 41)) fun b _ _ J=>gS wr _ b J;have jk:=hL.alloc (.cells (nv y A5 c5) 41);have ht:=hG.alloc (.cells (nv y A5 c5) 41);have kt:=hB.size;have hu:=hB.alloc (show w.heap.size+2<=wr.heap.size by omega) (.cells (nv y A5 c5) 41);have jf:=aa.new wr 41 (nv y A5 c5);have h6:=h7.keep (w':=wr.alloc (.cells (nv y A5 c5) 41)) fun b _ J=>gS wr _ b J;(have kj:(wr.alloc (.cells (nv y A5 c5) 41)).heap.size=wr.heap.size+1:=by simp);(go_upto_region 15 with fail);change Code.wp _ _ _ _ (wr.alloc (.cells (nv y A5 c5) 41));generalize hTT:wr.heap.size=T at *;generalize wr.alloc (.cells (nv y A5 c5) 41)=w6 at *;clear d0 d1 d2 d3 e0 e1 e2 e3 y0 y1 y2 y3 f0 f1 f2 f3 k0 k1 k2 k3 hO hL hG hB jm h7;obtain⟨t0,t1,t2,t3,-,-,-,-⟩:=ah jf;go_wp2_with fail;refine(ih y h8 j9 _ _ _ h6).mono ?_;cases jn:cR y with
     |none=>have HE:Hid (res=none):=hid (by rw[<-HF.out,gj,je,dw,jn];rfl);rintro e w7⟨M,rfl⟩;unfold bg;have jx:=M.size;have gm:=(ht.bl M).alloc (.cells bg 41);have gx:=((O.trans (hu.mono (by omega))).trans (M.mono (by omega))).alloc (by omega) (.cells bg 41);unfold bg at gm gx;obtain⟨d0,d1,d2,d3,e0,e1,e2,e3⟩:=ah gm;clear gj HF;go_wp2_with fail;exact ov HE.out gx gm (jC _) rfl (by rfl) (by rfl) rfl
     | some n2=>
      have jg:dw r=(dw (r.drop (j+1))).map fun z=>(acc++[n2])++z:=by
       rw[gj,je,dw,jn];cases dw (r.drop (j+1))with
       |none=>rfl
       |some z=>simp
      rintro e w7⟨M,A7,c7,rfl,h5,-⟩;have jx:=M.size;have jl:=aq.cells h5;have jv:=fun g hg=>(hr.lt g hg).2;have j8:=(hr.keep (w':=w7) fun b _ _ J=>M.block b J).keep (w':=w7.alloc (.cells (nv n2 A7 c7) 41)) fun b _ _ J=>gS w7 _ b J;have hs:=(jk.bl M).alloc (.cells (nv n2 A7 c7) 41);have gm:=(ht.bl M).alloc (.cells (nv n2 A7 c7) 41);have gx:=(hu.trans (M.mono (by omega))).alloc (show w.heap.size+2<=w7.heap.size by omega) (.cells (nv n2 A7 c7) 41);have j6:=aa.new w7 41 (nv n2 A7 c7);have kc:=jl.keep (w':=w7.alloc (.cells (nv n2 A7 c7) 41)) fun b _ J=>gS w7 _ b J;(have jw:(w7.alloc (.cells (nv n2 A7 c7) 41)).heap.size=w7.heap.size+1:=by simp);clear gj HF hr jk ht hu jf h6 h5 jl M t0 t1 t2 t3;(go_upto_region 16 with fail);change Code.wp _ _ _ _ (w7.alloc (.cells (nv n2 A7 c7) 41));generalize hUU:w7.heap.size=U at *;generalize w7.alloc (.cells (nv n2 A7 c7) 41)=w8 at *;obtain⟨t0,t1,t2,t3,-,-,-,-⟩:=ah j6;obtain⟨y0,y1,y2,y3,f0,f1,f2,f3⟩:=ah hs;have kd:=hs.lt;have ke:=gm.lt;(have kh:L≠w8.heap.size:=by omega);go_wp2_with (at_builtin;refine Bb rfl (.tmp 65) (.tmp 67) rfl (w.heap.size+2) w6.heap.size L (fun b=>X b/\b<w.heap.size) w8 (.slice A4 acc.length c4) acc n2 A7 c7 rfl _ rfl (by first|exact jw|rfl) j8 (fun b hb=>by have:=hb.2;omega) (by omega) (by omega) jc (by omega) jv (by omega) kc ?_;intro g9 c9 w9 hO9 hB9 hL9;have g0:aa w9 L 41 #[.int .i64 mk,.string mt,.slice A4 acc.length c4,.int .i64 mp]:=Eq.trans hL9 hs;obtain⟨z0,z1,z2,z3,h0,h1,h2,h3⟩:=ah g0);go_roundg (gk-1)
      case measure=>omega
      case rel=>
       have kr:=hB9.size;refine⟨j+1,acc++[n2],some ⟨g9,0,none⟩,c9,rfl,by omega,by simp;omega,?_,?_,?_,?_,?_,fun h=>by simp at h,jg⟩
       ·rw[gJ];exact hO9.keep fun b _ hne _=>gF w9 ⟨L,2,none⟩ _ b hne
       ·rw[gJ];simpa using g0.set_ 2 (.slice (some ⟨g9,0,none⟩) (acc.length+1) c9)
       ·exact(gm.below hB9 (by omega)).far (p:=⟨L,2,none⟩) (by show w.heap.size+1≠L;omega) _
       ·exact(gx.trans hB9).setCell (p:=⟨L,2,none⟩) jc _
       ·simp;omega
end
end Go.Proofs.YtcoiialmdncpfaaGreatDoor
