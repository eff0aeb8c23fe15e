/-
  Parts of the proof: Rfun Rask. By an AI agent.
-/
import Derived.Test.YteialcjaiocjdaaGreatDoorJ28
open Go.Proofs.Tryz
set_option maxRecDepth 100000
set_option maxHeartbeats 8000000
namespace Go.Proofs.YteialcjaiocjdaaGreatDoor
section
open Go.RowKit Go.Lib Go.Proofs
attribute [local go_sem ↓] Go.wp_at_zero Go.wp_at_succ
attribute [local go_sem] aR aS aT bu bv bw bz
theorem Mf{F:fK}{p:Int}{c:Cx}{s s1:St}{sg:Nd}(h:n7 F p c s=.ok sg s1):∃a r,sg=.mk 12 ⟨#[]⟩ [a,r] p:=by
 unfold n7 at h;cases J:bV ⟨#[40]⟩ c s with
 |out=>rw[J]at h;cases h
 | ok u s2=>
  rw[J]at h;change ((bh (fC F) ⟨#[41]⟩ F.g [] c s2).bind fun l s2=>(dt F c s2).bind fun r s3=>.ok (.mk 12 ⟨#[]⟩ [.mk 6 ⟨#[]⟩ l (aD c s),r] p) s3)=.ok sg s1 at h;cases I:bh (fC F) ⟨#[41]⟩ F.g [] c s2 with
  |out=>rw[I]at h;cases h
  |ok l s3=>
   rw[I]at h;change ((dt F c s3).bind fun r s3=>.ok (.mk 12 ⟨#[]⟩ [.mk 6 ⟨#[]⟩ l (aD c s),r] p) s3)=.ok sg s1 at h;cases D:dt F c s3 with
   |out=>rw[D]at h;cases h
   |ok r s4=>rw[D]at h;change bQ.ok (Nd.mk 12 ⟨#[]⟩ [.mk 6 ⟨#[]⟩ l (aD c s),r] p) s4=.ok sg s1 at h;injection h with h _;exact⟨_,_,h.symm⟩
theorem pL{w:World}{P:Nat}{t:TypeId}{a b c d:Value}(h:aq w P t #[a,b,c,d]):w.cell? ⟨P,0,none⟩=some a/\w.cell? ⟨P,1,none⟩=some b/\w.cell? ⟨P,2,none⟩=some c/\w.cell? ⟨P,3,none⟩=some d:=
 ⟨(h.cell 0).trans rfl,(h.cell 1).trans rfl,(h.cell 2).trans rfl,(h.cell 3).trans rfl⟩
def I4(types nb:Bool)(c:Cx)(s:St):Bool:=types&&(!nb&&(decide (s.at_+1<c.toks.length) && !((az c (s.at_+1)).text.toList==[41])))
theorem Bf(E:cw)(F:fK)(hF:nE E F)(p:Int)(types:Bool)(w:World)(s:St)(h:aU E w s)(hc:dm F p types E.c s≠.out):
  Calls prog 214 #[E.R,p,.bool types] w (mu E w (dm F p types E.c s)):=by
 generalize hres:dm F p types E.c s=res at *;have gk:=hid hc;have gl:=h.lt;have hq:=h.most;have ja:=h.le;(have hh:(⟨#[41]⟩:BA).toList=[41]:=by decide +kernel);have ga:=hid (show(if I4 types (i9 E.c s) E.c s=true then(dk F p E.c s).bind fun t s1=>if iR E.c s1 then .ok t s1 else .out
   else(n7 F p E.c s).bind fun sg s1=>if types=true/\(sg.kids.headD cc).kids.length=0/\iR E.c s1=true then .ok sg s1
   else(bH F E.c s1).bind fun b s2=>.ok (.mk 25 ⟨#[]⟩ [sg,b] p) s2)=res by rw[<-hres,dm];(have e:(I4 types (i9 E.c s) E.c s=true)=(types=true/\i9 E.c s=false/\s.at_+1<E.c.toks.length/\(az E.c (s.at_+1)).text≠(⟨#[41]⟩:BA)):=by unfold I4;rw[<-hh,cz];simp);simp only[e])
 clear hres hc;have hg:=hid (fun W(hr:aU E W s)=>En E s W hr);generalize hnb:i9 E.c s=nb at *;clear hnb;have U:=(aA.refl h).alloc (.cells bJ 24);have g6:=aq.new w 24 bJ;(have h8:w.heap.size+1<=(w.alloc (.cells bJ 24)).heap.size:=by simp);(go_enter func214,ntmps214);(go_upto_region 1 with fail);change Code.wp _ _ _ _ (w.alloc (.cells bJ 24));generalize w.alloc (.cells bJ 24)=w1 at *;go_cut [42] (fun hm wx=>hm=.bool (I4 types nb E.c s)/\Below w1 w1 wx)
 case first=>
  clear ga gk g6;have HN:=hid (fun W(hb:Below w1 w1 W)=>hg.out W (U.rd.below hb));have g4:IntKind.i64.wrap ((s.at_:Int)+1)=(s.at_:Int)+1:=jC _ (by omega);have k1:∀n:Wd (Below w1 w1),n.wd.cell? ⟨E.R,1,none⟩=some (.int .i64 s.at_):=fun n=>(U.rd.below n.ok).cells.2.1;have k0:∀n:Wd (Below w1 w1),n.wd.cell? ⟨E.R,0,none⟩=some (.slice E.A E.c.toks.length E.cap):=fun n=>(U.rd.below n.ok).cells.1;cases types with
  |false=>have J:Hid (I4 false nb E.c s=false):=hid rfl;refine cF w1 ?_;(repeat(go_big_quiet_step (fail)));refine jQ ?_;intro n;go_wp2_with fail;go_meet;exact⟨jM Value.bool J.out.symm,n.ok⟩
  | true=>
   cases nb with
   |true=>have J:Hid (I4 true true E.c s=false):=hid rfl;refine cF w1 ?_;(repeat(go_big_quiet_step ((go_at_call 229;rename_i n;refine(HN.out n.wd n.ok).mono ?_;rintro e w'⟨rfl,hb⟩;exact⟨rfl,⟨w',au n.ok hb⟩,rfl⟩))));refine jQ ?_;intro n;go_wp2_with fail;go_meet;exact⟨jM Value.bool J.out.symm,n.ok⟩
   |false=>
    by_cases I:s.at_+1<E.c.toks.length
    case neg=>have J:Hid (I4 true false E.c s=false):=hid (by unfold I4;rw[gP I];rfl);(have g1:decide ((s.at_:Int)+1<(E.c.toks.length:Int))=false:=by rw[gK];omega);refine cF w1 ?_;(repeat(go_big_quiet_step ((go_at_call 229;rename_i n;refine(HN.out n.wd n.ok).mono ?_;rintro e w'⟨rfl,hb⟩;exact⟨rfl,⟨w',au n.ok hb⟩,rfl⟩))));refine jQ ?_;intro n;go_wp2_with fail;go_meet;exact⟨jM Value.bool J.out.symm,n.ok⟩
    case pos=>clear k0;obtain⟨b,off,hS⟩:=Lf U.rd I;(have g1:decide ((s.at_:Int)+1<(E.c.toks.length:Int))=true:=by rw[gR];omega);(have g2:(0:Int)<=(s.at_:Int)+1:=by omega);(have g3:(s.at_:Int)+1<(E.c.toks.length:Int):=by omega);(have g5:((s.at_:Int)+1).toNat=s.at_+1:=by omega);have J:=(show I4 true false E.c s = !((az E.c (s.at_+1)).text.toList==[41])by unfold I4;rw[jK I];rfl);generalize I4 true false E.c s=vv at *;generalize az E.c (s.at_+1)=t at *;obtain⟨tk,tt,tp⟩:=t;simp only at *;have k0:∀n:Wd (Below w1 w1),n.wd.cell? ⟨E.R,0,none⟩=some (.slice (some ⟨b,off,none⟩) E.c.toks.length E.cap):=fun n=>(hS _ (U.rd.below n.ok)).1;have k3:∀n:Wd (Below w1 w1),n.wd.cell? ⟨b,off+(s.at_+1)*3+1,none⟩=some (.string tt):=fun n=>(hS _ (U.rd.below n.ok)).2.2.2;clear hS;cases h1:(tt.toList==[41]);all_goals have h2:(tt.toList != [41]) = !(tt.toList==[41]):=rfl;rw[h1]at h2 J;have J:=hid J;refine cF w1 ?_;(repeat(go_big_quiet_step ((go_at_call 229;rename_i n;refine(HN.out n.wd n.ok).mono ?_;rintro e w'⟨rfl,hb⟩;exact⟨rfl,⟨w',au n.ok hb⟩,rfl⟩))));refine jQ ?_;intro n;go_wp2_with fail;go_meet;exact⟨jM Value.bool J.out.symm,n.ok⟩
 case rest=>
  obtain⟨rfl,gv⟩:=hcut;have gj:=U.step gv;have gz:=g6.bl gv;have h7:=gv.size;generalize wc=w2 at *;clear hg U g6 gv;cases gt:I4 types nb E.c s with
  | true=>
   have HE:=hid (show((dk F p E.c s).bind fun t s1=>if iR E.c s1 then .ok t s1 else .out)=res by rw[<-ga.out,gG gt]);clear ga gt;go_wp2_with fail;cases hP:dk F p E.c s with
   |out=>exact absurd HE.out.symm (by rw[hP];exact gk.out)
   |ok n s1=>
    have N:=hid (show(if iR E.c s1 then .ok n s1 else .out)=res by rw[<-HE.out,hP];rfl);refine(rY E F hF p _ s gj.rd (by rw[hP];exact nofun)).mono ?_;rw[hP];rintro e w3⟨⟨v,rfl,J⟩,M⟩;obtain⟨A3,c3,rfl,g7⟩:=J.toC;have gs:=gz.grown M.gr;have gp:=gj.trans M;have hp:=M.gr.size;have D:=(aj w3 (nv n A3 c3)).1;have gi:=aq.new w3 24 (nv n A3 c3);have gb:=gp.step D;have gq:=gs.bl D;have gm:=J.keep (w':=w3.alloc (.cells (nv n A3 c3) 24)) fun b _ I=>D.block b I;clear hP HE J g7 gp gs gz M D gj;(go_upto_region 3 with fail);change Code.wp _ _ _ _ (w3.alloc (.cells (nv n A3 c3) 24));generalize hXX:w3.heap.size=X at *;generalize w3.alloc (.cells (nv n A3 c3) 24)=w4 at *;go_wp2_with fail;refine(uF E s1 _ gb.rd).mono ?_;rintro e w5⟨rfl,O⟩;have gd:=gq.bl O.bel;have gh:=gi.bl O.bel;have gn:=gb.trans O.moved;have gy:=gm.keep (w':=w5) fun b _ I=>O.bel.block b I;have ho:=O.bel.size;clear gq gi gb gm O;cases hE:iR E.c s1 with
    |true=>have HF:Hid (res=.ok n s1):=hid (by rw[<-N.out,hE];rfl);clear N hE;obtain⟨x0,x1,x2,x3,-,-,-,-⟩:=ab gh;obtain⟨d0,d1,d2,d3,e0,e1,e2,e3⟩:=ab gd;go_wp2_with fail;refine av HF.out gy gn gd (gC _) gl ?_ rfl (by rfl) rfl;intro b hb;constructor<;>omega
    |false=>exact absurd (show res=.out by rw[<-N.out,hE];rfl) gk.out
  | false=>
   have HE:=hid (show((n7 F p E.c s).bind fun sg s1=>if types=true/\(sg.kids.headD cc).kids.length=0/\iR E.c s1=true then .ok sg s1
    else(bH F E.c s1).bind fun b s2=>.ok (.mk 25 ⟨#[]⟩ [sg,b] p) s2)=res by rw[<-ga.out,gB (by rw[gt];decide)])
   clear ga gt;go_wp2_with fail;cases hP:n7 F p E.c s with
   |out=>exact absurd HE.out.symm (by rw[hP];exact gk.out)
   | ok sg s1=>
    obtain⟨pr,rs,rfl⟩:=Mf hP;have N:=hid (show(if types=true/\pr.kids.length=0/\iR E.c s1=true then .ok (.mk 12 ⟨#[]⟩ [pr,rs] p) s1
     else(bH F E.c s1).bind fun b s2=>.ok (.mk 25 ⟨#[]⟩ [.mk 12 ⟨#[]⟩ [pr,rs] p,b] p) s2)=res by rw[<-HE.out,hP];rfl)
    refine(ra E F hF p _ s gj.rd (by rw[hP];exact nofun)).mono ?_;rw[hP];rintro e w3⟨⟨v,rfl,J⟩,M⟩;obtain⟨A3,c3,rfl,g7⟩:=J.toC;change af _ _ (.agg #[.int .i64 12,.string ⟨#[]⟩,.slice A3 2 c3,.int .i64 p]) _ at J;obtain⟨kb,ko,kA,kc,rfl,jb,h3,-,-,k2,-,-⟩:=(af.kidsV J).kid 0 (show 0<2 by decide);change w3.cell? ⟨kb,ko+0*4+2,none⟩=some (.slice kA pr.kids.length kc)at k2;rw[jF,gZ]at k2;have gs:=gz.grown M.gr;have gp:=gj.trans M;have hp:=M.gr.size;have D:Below w3 w3 (w3.alloc (.cells #[.int .i64 12,.string ⟨#[]⟩,.slice (some ⟨kb,ko,none⟩) 2 c3,.int .i64 p] 24)):=(gH _ _).alloc (gC _) _;have gi:=aq.new w3 24 #[.int .i64 12,.string ⟨#[]⟩,.slice (some ⟨kb,ko,none⟩) 2 c3,.int .i64 p];have gb:=gp.step D;have gq:=gs.bl D;have gm:=J.keep (w':=w3.alloc (.cells #[.int .i64 12,.string ⟨#[]⟩,.slice (some ⟨kb,ko,none⟩) 2 c3,.int .i64 p] 24)) fun b _ I=>D.block b I;have ha:=cell_kept D k2;have h6:=D.size;clear hP HE J g7 gp gs gz M D gj k2;(go_upto_region 7 with fail);change Code.wp _ _ _ _ (w3.alloc (.cells #[.int .i64 12,.string ⟨#[]⟩,.slice (some ⟨kb,ko,none⟩) 2 c3,.int .i64 p] 24));generalize hXX:w3.heap.size=X at *;generalize w3.alloc (.cells #[.int .i64 12,.string ⟨#[]⟩,.slice (some ⟨kb,ko,none⟩) 2 c3,.int .i64 p] 24)=w4 at *;go_cut [68] (fun hl wx=>hl=.bool (decide (types=true/\pr.kids.length=0/\iR E.c s1=true))/\Below w4 w4 wx)
    case first=>
     clear N gk;obtain⟨x0,x1,x2,x3,-,-,-,-⟩:=ab gi;have h0:=hid (uF E s1 _ gb.rd);cases types with
     |false=>go_wp2_with fail;go_meet;exact⟨jM Value.bool (by simp),gH _ _⟩
     |true=>
      by_cases hz:pr.kids.length=0
      case pos=>rw[hz]at ha;go_wp2_with fail;refine h0.out.mono ?_;rintro e w5⟨rfl,O⟩;go_wp2_with fail;go_meet;exact⟨jM Value.bool (by rw[hz];simp),O.bel⟩
      case neg=>(have g9:((pr.kids.length:Int)==0)=false:=by rw[gF];omega);go_wp2_with fail;go_meet;exact⟨jM Value.bool (by rw[eq_comm,gK];exact fun h=>hz h.2.1),gH _ _⟩
    case rest=>
     obtain⟨rfl,gg⟩:=hcut;have gd:=gq.bl gg;have gh:=gi.bl gg;have gn:=gb.step gg;have gy:=gm.keep (w':=wc) fun b _ I=>gg.block b I;have ho:=gg.size;clear gq gi gb gm gg ha;by_cases hD:types=true/\pr.kids.length=0/\iR E.c s1=true
     case pos=>have HF:Hid (res=.ok (.mk 12 ⟨#[]⟩ [pr,rs] p) s1):=hid (by rw[<-N.out,gG hD]);rw[jK hD];clear N hD;obtain⟨x0,x1,x2,x3,-,-,-,-⟩:=ab gh;obtain⟨d0,d1,d2,d3,e0,e1,e2,e3⟩:=ab gd;go_wp2_with fail;refine av HF.out gy gn gd (gC _) gl ?_ rfl (by rfl) rfl;intro b hb;constructor<;>omega
     case neg=>
      have g8:=hid (show((bH F E.c s1).bind fun b s2=>.ok (.mk 25 ⟨#[]⟩ [.mk 12 ⟨#[]⟩ [pr,rs] p,b] p) s2)=res by rw[<-N.out,gB hD]);rw[gP hD];clear N hD;go_wp2_with fail;have hy:bG (fun b=>w.heap.size+1<=b) wc (.mk 12 ⟨#[]⟩ [pr,rs] p) [.int .i64 12,.string ⟨#[]⟩,.slice (some ⟨kb,ko,none⟩) 2 c3,.int .i64 p]:=(af.cells gy).mono (fun b hb _=>by omega);(have gw:X≠w.heap.size:=by omega);(have ht:X≠E.R:=by omega);have s7:=pL gh;have hk:=pL gh.drew;cases hB:bH F E.c s1 with
      |out=>exact absurd g8.out.symm (by rw[hB];exact gk.out)
      | ok b s2=>
       have HC:=hid (fun W(hr:aU E W s1)=>iT E F hF W s1 hr (by rw[hB];exact nofun));have HF:Hid (res=.ok (.mk 25 ⟨#[]⟩ [.mk 12 ⟨#[]⟩ [pr,rs] p,b] p) s2):=hid (by rw[<-g8.out,hB];rfl);rw[hB]at HC;clear g8 hB;go_region_held3 (fun w'=>w'.cell? ⟨X,0,none⟩=some (.int .i64 12)/\w'.cell? ⟨X,1,none⟩=some (.string ⟨#[]⟩)/\w'.cell? ⟨X,2,none⟩=some (.slice (some ⟨kb,ko,none⟩) 2 c3)/\w'.cell? ⟨X,3,none⟩=some (.int .i64 p))
        (first|with_reducible exact s9 _ _ _ _|with_reducible exact hi|with_reducible exact hj _|with_reducible exact s8|with_reducible exact hk|with_reducible exact s7)
        (first
         |(go_at_call 76;refine(HC.out _ gn.drew.rd).mono ?_;rintro e w8⟨⟨v,rfl,hn⟩,ge⟩;obtain⟨An,cn,rfl,hw⟩:=hn.toC;have gx:=gh.drew.grown ge.gr (fun e=>ht (by injection e));have s8:=pL gx;have hj:=fun o:Obj=>pL (gx.alloc o))
         |(go_at_call 55;refine(aM _ _ _ _ _ ⟨_,_,_,rfl⟩).mono ?_;rintro e w9⟨rfl,gu⟩;have he:=(gx.alloc _).below gu (by have:=gx.lt;simp;omega);have hi:=pL he;have s9:=fun a b c d:Value=>pL ((((he.far (p:=⟨w,0,none⟩) (by exact gw) a).far (p:=⟨w,1,none⟩) (by exact gw) b).far (p:=⟨w,2,none⟩) (by exact gw) c).far (p:=⟨w,3,none⟩) (by exact gw) d);have hf:=((gd.drew.grown ge.gr).alloc _).below gu (by have:=(gd.drew.grown ge.gr).lt;simp;omega);obtain⟨g0,g1,g2,g3,k0,k1,k2,k3⟩:=ab hf))
       (all_goals go_wp2_with fail);all_goals have h5:wc.heap.size<=w8.heap.size:=ge.gr.size;have hu:=(hy.keep (w:=wc) (w':=wc.drew) (fun _ _ _=>rfl)).keep (w':=w8) (am.of_grown (X:=fun b=>w.heap.size+1<=b) ge.gr).block;have h4:wc.drew.heap.size=wc.heap.size:=rfl;have hV:=af.make 2 rfl (ah.cons hu (ah.one (hw.mono (Y:=fun b=>w.heap.size+1<=b) fun b hb _=>by omega))) 25 ⟨#[]⟩ p gu;refine av HF.out hV (((gn.drew.trans ge).alloc _).step gu) hf (gC _) gl ?_ rfl (by rfl) rfl;rintro b(⟨hb,_⟩|rfl)<;>constructor<;>omega
end
section
open Go.RowKit Go.Lib Go.Proofs
structure oS(B:Nat)(X:Nat->Prop)(L:Nat)(w:World)(v:Value)(l:List Nd):Prop where
 out:∃xs,w.ownsRow B 24 4 v l.length xs/\ah (fun b=>(X b\/B<=b)/\some b≠v.ownBlock/\b≠L) w l xs
 far:∀g,v.ownBlock=some g->g≠L
section
variable {B L:Nat} {X:Nat->Prop} {w w':World} {v:Value} {l:List Nd}
theorem oS.nil(B:Nat)(X:Nat->Prop)(L:Nat)(w:World):oS B X L w (.slice none 0 0) []:=⟨⟨[],qS _ _ _ _,ah.nil⟩,fun g h=>by simp[Value.ownBlock]at h⟩
theorem oS.lt(h:oS B X L w v l):∀g,v.ownBlock=some g->B<=g/\g<w.heap.size:=by obtain⟨xs,D,_⟩:=h.out;exact fun g hg=>D.lt g hg
theorem oS.keep(h:oS B X L w v l)(J:∀b,(X b\/B<=b)->b≠L->b<w.heap.size->w'.heap[b]? = w.heap[b]?):oS B X L w' v l:=by
 obtain⟨xs,N,O⟩:=h.out;refine⟨⟨xs,⟨N.1,?_⟩,O.keep fun b hb D=>J b hb.1 hb.2.2 D⟩,h.far⟩;rcases N.2 with U|⟨g,cap,cur,e,M,I,r⟩
 ·exact .inl U
 ·refine .inr ⟨g,cap,cur,e,M,?_,r⟩;have D:g<w.heap.size:=by
   rcases kL g w.heap.size with D|hge
   ·exact D
   ·rw[kN hge]at I;cases I
  exact(J g (.inr M) (h.far g (by rw[e];rfl)) D).trans I
theorem oS.values(h:oS B X L w v l):cV (fun b=>X b\/B<=b) w v l:=by
 obtain⟨xs,D,J⟩:=h.out;rcases D.2 with⟨rfl,h0⟩|⟨g,cap,cur,rfl,hg,U,I,_,N,M⟩
 ·exact⟨none,0,xs,by rw[h0],by omega,⟨D.1,fun h=>by omega⟩,J.mono fun b hb _=>hb.1⟩
 ·refine⟨_,cap,xs,rfl,I,⟨D.1,fun _=>⟨g,0,rfl,.inr hg,fun j u hu=>?_⟩⟩,J.mono fun b hb _=>hb.1⟩;(have O:j<l.length*4:=by have:=(List.getElem?_eq_some_iff.1 hu).1;rw[D.1]at this;exact this);rw[kR];unfold World.cell?;rw[U];simp only[qj,gW,jW];rw[<-M,qY O]at hu;rw[<-hu];simp
theorem oS.form(h:oS B X L w v l):∃A c,v=.slice A l.length c/\l.length<=c:=by obtain⟨A,c,xs,e,D,_⟩:=h.values;exact⟨A,c,e,D⟩
end
theorem Mg{o:Oper}{a:Act}{K:Act->World->Prop}{Q:Exit->Act->World->Prop}(s x:Operand)
  (ho:o.op=.call { callee:=.builtin .append,args:=#[s,x],argTypes:=#[22,22] })
  (B S L:Nat)(X:Nat->Prop)(w1:World)(u:Value)(l:List Nd)(n:Nd)(A:Option Addr)(cap:Nat)(hs:a.eval s=u)(T:Nat)(hx:a.eval x=.slice (some ⟨T,0,none⟩) 1 1)(hT:w1.heap.size=T)
  (hO:oS B X L w1 u l)(gb:∀b,X b->b<B)(hB:B<=S)(hS:S<=w1.heap.size)(gk:B<=L)(gj:L<S)(hu:∀g,u.ownBlock=some g->g<S)(hl:l.length<=1000000)
  (hV:bG (fun b=>X b\/S<=b) w1 n [.int .i64 n.kind,.string n.text,.slice A n.kids.length cap,.int .i64 n.pos])
  (h:∀g c w2,oS B X L w2 (.slice (some ⟨g,0,none⟩) (l.length+1) c) (l++[n])->Below B w1 w2->w2.heap[L]? = w1.heap[L]? ->K (a.put o.dst (.slice (some ⟨g,0,none⟩) (l.length+1) c)) w2):
  o.wp prog a (w1.alloc (.cells (nv n A cap) 24)) K Q:=by
 subst hT;obtain⟨i0,hi,gg,ge,gd⟩:=qE o0;obtain⟨xs,O,gh⟩:=hO.out;refine vh _ s x 22 ho B 24 i0 _ 4 56 underlying22 hi gg ge gd rfl (by omega) u l.length xs hs (O.alloc _) ⟨w1,0,none⟩ 1 1 [.int .i64 n.kind,.string n.text,.slice A n.kids.length cap,.int .i64 n.pos] hx rfl
  (qv (cs:=(nv n A cap)) (qq _ _)) (rX n A cap) (by omega) (by unfold maxLen;omega) (by omega) (by rw[jO];omega) _ rfl ?_
 intro g c w2 hown1 M ga _;have N:∀g,u.ownBlock=some g->B<=g:=fun g M=>(hO.lt g M).1;have I:∀b,b<w1.heap.size->some b≠u.ownBlock->w2.heap[b]? = w1.heap[b]? :=fun b hb hne=>(M.block b (by rw[jO];omega) hne).trans (jI w1 _ b hb);have gi:w1.heap.size<=w2.heap.size:=jZ (by rw[jO];omega) M.size;have U:g≠L:=by
  rcases ga with e|e
  ·exact hO.far g e
  ·rw[jO]at e;omega
 have J:ah (fun b=>(X b\/B<=b)/\some b≠(Value.slice (some ⟨g,0,none⟩) (l.length+1) c).ownBlock/\b≠L) w2 (l++[n]) (xs++[.int .i64 n.kind,.string n.text,.slice A n.kids.length cap,.int .i64 n.pos]):=by
  have h1:ah (fun b=>(X b\/B<=b)/\some b≠u.ownBlock/\b≠L/\b<w1.heap.size) w1 (l++[n]) (xs++[.int .i64 n.kind,.string n.text,.slice A n.kids.length cap,.int .i64 n.pos]):=
   (gh.mono fun b hb D=>⟨hb.1,hb.2.1,hb.2.2,D⟩).app (ah.one (hV.mono fun b hb D=>⟨hb.imp id fun hb=>jZ hB hb,fun e=>by
    have h1:=hu b e.symm;have h2:=N b e.symm;rcases hb with hb|hb
    ·have:=gb b hb;omega
    ·omega,fun hz=>by
    rcases hb with hb|hb
    ·have:=gb b hb;omega
    ·omega,D⟩))
  have h2:=h1.keep (w':=w2) fun b hb D=>I b D hb.2.1;refine h2.mono fun b hb _=>⟨hb.1,fun e=>?_,hb.2.2.1⟩;(have e3:b=g:=by simpa[Value.ownBlock]using e);subst e3;rcases ga with e|e
  ·exact hb.2.1 e.symm
  ·rw[jO]at e;have:=hb.2.2.2;omega
 refine h g c w2 ⟨⟨_,by rw[gM];exact hown1,J⟩,fun g' hg'=>?_⟩ ⟨M.os,M.tape,M.output,gi,fun b hb=>?_⟩ ?_
 ·(have e3:g=g':=by simpa[Value.ownBlock]using hg');rw[<-e3];exact U
 ·exact I b (by omega) fun e=>by have:=N b e.symm;omega
 ·exact I L (by omega) fun e=>hO.far L e.symm rfl
theorem Bg{ops:Array Oper}{rest:List Oper}{o:Oper}{a:Act}{Q:Exit->Act->World->Prop}(D:o.guard=none)(s x:Operand)
  (U:o.op=.call { callee:=.builtin .append,args:=#[s,x],argTypes:=#[22,22] })
  (B S L:Nat)(X:Nat->Prop)(w1:World)(u:Value)(l:List Nd)(n:Nd)(A:Option Addr)(cap:Nat)(hs:a.eval s=u)(T:Nat)(N:a.eval x=.slice (some ⟨T,0,none⟩) 1 1)(hT:w1.heap.size=T)
  (hO:oS B X L w1 u l)(I:∀b,X b->b<B)(hB:B<=S)(hS:S<=w1.heap.size)(M:B<=L)(J:L<S)(O:∀g,u.ownBlock=some g->g<S)(hl:l.length<=1000000)
  (hV:bG (fun b=>X b\/S<=b) w1 n [.int .i64 n.kind,.string n.text,.slice A n.kids.length cap,.int .i64 n.pos])
  (h:∀g c w2,oS B X L w2 (.slice (some ⟨g,0,none⟩) (l.length+1) c) (l++[n])->Below B w1 w2->w2.heap[L]? = w1.heap[L]? ->wpList prog ops Q rest (a.put o.dst (.slice (some ⟨g,0,none⟩) (l.length+1) c)) w2):
  wpList prog ops Q (o::rest) a (w1.alloc (.cells (nv n A cap) 24)):=
 vj D fun _ hK=>Mg s x U B S L X w1 u l n A cap hs T N hT hO I hB hS M J O hl hV fun g c w2 h1 h2 h3=>hK _ _ (h g c w2 h1 h2 h3)
end
end Go.Proofs.YteialcjaiocjdaaGreatDoor
