/-
  Parts of the proof: Rinter Rcons Rparams Rfields. By an AI agent.
-/
import Derived.Test.YteialcjaiocjdaaGreatDoorJ05
open Go.Proofs.Tryz
set_option maxRecDepth 100000
set_option maxHeartbeats 8000000
namespace Go.Proofs.YteialcjaiocjdaaGreatDoor
section
open Go.RowKit Go.Lib Go.Proofs
attribute [local go_sem ↓] Go.wp_at_zero Go.wp_at_succ
attribute [local go_sem] aR aS aT bu bv bw bz
theorem gN:type_of% @List.getElem_cons_zero:=@List.getElem_cons_zero
theorem gO:type_of% @List.length_cons:=@List.length_cons
theorem jF:type_of% @Nat.zero_mul:=@Nat.zero_mul
theorem qd:type_of% @List.length_nil:=@List.length_nil
theorem vn:type_of% @Option.getD_none:=@Option.getD_none
def TY(n:Nd)(A:Option Addr)(cp:Nat):Array Value:=(nv n A cp)
theorem yQ(E:cw)(F:fK)(hF:nE E F)(p:Int)(w:World)(s:St)(h:aU E w s)(gg:iJ F p E.c s≠.out):
  Calls prog 116 #[E.R,p] w (mu E w (iJ F p E.c s)):=by
 generalize hres:iJ F p E.c s=res at *;have I:=hid hres;have gb:=hid gg;have gh:=h.lt;have ga:=(aA.refl h).alloc (.cells bJ 24);clear hres gg;(go_enter func116,ntmps116);go_wp2_with fail;cases hA:aP E.c s ⟨#[123]⟩with
 |false=>exact absurd (show res=.out by rw[<-I.out,iJ,bV];simp[hA]) gb.out
 | true=>
  have HE:=hid (show(fv F p E.c (adv s)).bind (fun n s2=>(bV ⟨#[125]⟩ E.c (fB E.c s2)).bind fun _ s3=>.ok n s3)=res by rw[<-I.out,iJ,bV];simp only[hA,kG,bQ.bind_ok]);refine(de E s _ _ ga.rd hA).mono ?_;rintro e w1⟨rfl,N⟩;have gn:=(aq.new w 24 bJ).grown N.gr;have U:=ga.trans N;have gt:=gn.lt;clear I hA ga N;go_wp2_with fail;cases hP:fv F p E.c (adv s)with
  |out=>exact absurd HE.out.symm (by rw[hP];exact gb.out)
  |ok n s2=>
   have gd:=hid (show(bV ⟨#[125]⟩ E.c (fB E.c s2)).bind (fun _ s3=>.ok n s3)=res by rw[<-HE.out,hP];rfl);refine(yP E F hF p w1 (adv s) U.rd (by rw[hP];exact nofun)).mono ?_;rw[hP];rintro e w2⟨⟨v,rfl,hv⟩,M⟩;obtain⟨A,cp,rfl,hC⟩:=hv.toC;have gm:=gn.grown M.gr;have gv:=U.trans M;have g0:=M.gr.size;have gs:=gm.lt;clear HE hP U M;go_wp2_with fail;have gj:=aq.new w2 24 (TY n A cp);have gl:=gm.alloc (.cells (TY n A cp) 24);have O:=gv.alloc (.cells (TY n A cp) 24);have ge:=hv.kept ((am.refl _ w2).alloc (.cells (TY n A cp) 24));refine(ld E s2 _ O.rd).mono ?_;rintro e w4⟨rfl,D⟩;have gx:=gj.grown D.gr;have gy:=gl.grown D.gr;have gq:=ge.kept (am.of_grown D.gr (fun g e hX=>by injection e with e;subst e;omega));have gi:=O.trans D;(have gz:w2.heap.size+1<=w4.heap.size:=by have:=D.gr.size;simp at this;omega);clear gj gl ge O D hv hC;go_wp2_with fail;cases hD:aP E.c (fB E.c s2) ⟨#[125]⟩with
   |false=>exact absurd (show res=.out by rw[<-gd.out,bV];simp[hD]) gb.out
   |true=>have HF:=hid (show res=.ok n (adv (fB E.c s2))by rw[<-gd.out,bV];simp[hD]);refine(de E (fB E.c s2) _ _ gi.rd hD).mono ?_;rintro e w5⟨rfl,J⟩;have gw:=gx.grown J.gr;have gk:=gy.grown J.gr;have gp:=gq.kept (am.of_grown J.gr (fun g e hX=>by injection e with e;subst e;omega));have gu:=gi.trans J;obtain⟨x0,x1,x2,x3,_,_,_,_⟩:=ab gw;obtain⟨d0,d1,d2,d3,e0,e1,e2,e3⟩:=ab gk;clear hD gd;go_wp2_with fail;refine av HF.out gp gu gk (gC _) gh ?_ rfl (by rfl) rfl;intro b hb;constructor<;>omega
theorem uH(F:fK)(p:Int)(c:Cx):∀(g:Nat)(acc:List Nd)(s:St)(n:Nd)(s':St),1<=acc.length->(∀t∈acc,t.kids.length=1)->eQ F p g acc c s=.ok n s'->1<=n.kids.length/\∀t∈n.kids,t.kids.length=1
 |0,acc,s,n,s',_,_,h=>by simp[eQ]at h
 | g+1,acc,s,n,s',O,M,h=>by
  rw[eQ]at h;dsimp only at h;split at h
  ·cases D:ma F c (adv s)with
   |out=>rw[D]at h;simp at h
   | ok t s1=>
    rw[D]at h;simp only[bQ.bind_ok]at h;have N:t.kids.length=1:=by
     unfold ma at D;split at D
     ·cases J:F.typ c (adv (adv s))with
      |out=>rw[J]at D;simp at D
      |ok k s2=>rw[J]at D;simp at D;rw[<-D.1];rfl
     ·cases J:F.typ c (adv s)with
      |out=>rw[J]at D;simp at D
      |ok k s2=>rw[J]at D;simp at D;rw[<-D.1];rfl
    exact uH F p c g (acc++[t]) s1 n s' (by simp) (by
     intro u I;rcases List.mem_append.1 I with I|I
     ·exact M u I
     ·rw[List.mem_singleton.1 I];exact N) h
  ·simp only[bQ.ok.injEq]at h;rw[<-h.1];exact⟨O,M⟩
theorem Ca(F:fK)(p:Int)(c:Cx)(s:St)(n:Nd)(s':St)(h:fv F p c s=.ok n s'):1<=n.kids.length/\∀t∈n.kids,t.kids.length=1:=by
 unfold fv at h;cases D:ma F c s with
 |out=>rw[D]at h;simp at h
 | ok t s1=>
  rw[D]at h;simp only[bQ.bind_ok]at h;refine uH F p c F.g [t] s1 n s' (by simp) (fun u hu=>?_) h;rw[List.mem_singleton.1 hu];unfold ma at D;split at D
  ·cases I:F.typ c (adv s)with
   |out=>rw[I]at D;simp at D
   |ok k s2=>rw[I]at D;simp at D;rw[<-D.1];rfl
  ·cases I:F.typ c s with
   |out=>rw[I]at D;simp at D
   |ok k s2=>rw[I]at D;simp at D;rw[<-D.1];rfl
theorem pH{E:cw}{w wk:World}{res:bQ Nd}{n:Nd}{s:St}{X:Nat->Prop}{a0 a1 a2 a3 z0 z1 z2 z3:Value}{g q:Nat}{fn:Func}{a:Act}(D o2:Obj)(O:res=.ok n s)
  (M:af X wk (.agg #[a0,a1,a2,a3]) n)(U:aA E s w wk)(hb:aq wk g 24 #[z0,z1,z2,z3])(h:w.heap.size<=g)(hR:E.R<g)(J:∀b,X b->w.heap.size<=b/\b≠g)
  (I:fn.results = #[.cell q 24])(N:a.tmps.getD q undef=.pointer (some ⟨g,0,none⟩))(hd:a.defers=[]):
  bodyPost prog fn (mu E w res) .ret a (((dT wk g a0 a1 a2 a3).alloc D).alloc o2):=by refine jY (eB I _ N (((dy hb a0 a1 a2 a3).alloc D).alloc o2)) hd ?_;rw[O];exact⟨⟨_,rfl,(M.kept (((dn (fun b hb=>(J b hb).2) _ _ _ _).alloc D).alloc o2)).mono fun b hb _=>(J b hb).1⟩,((fi U h hR _ _ _ _).alloc D).alloc o2⟩
theorem cV.kid{X:Nat->Prop}{w:World}{A0:Option Addr}{n c:Nat}{l:List Nd}(h:cV X w (.slice A0 n c) l)(i:Nat)(U:i<l.length):
  ∃ b off A cp,A0=some ⟨b,off,none⟩/\X b/\b<w.heap.size/\w.cell? ⟨b,off+i*4,none⟩=some (.int .i64 l[i].kind)/\w.cell? ⟨b,off+i*4+1,none⟩=some (.string l[i].text) /\
    w.cell? ⟨b,off+i*4+2,none⟩=some (.slice A l[i].kids.length cp)/\w.cell? ⟨b,off+i*4+3,none⟩=some (.int .i64 l[i].pos) /\
    af X w (.agg #[.int .i64 l[i].kind,.string l[i].text,.slice A l[i].kids.length cp,.int .i64 l[i].pos]) l[i]:=by obtain⟨A1,c1,xs,e,_,M,N⟩:=h;injection e with e1 e2 e3;subst e1 e2 e3;obtain⟨b,off,eA,hX,hc⟩:=M.2 (by omega);obtain⟨ys,hC,I⟩:=N.get i U;obtain⟨A,cp,zs,e,h1,h2,h3⟩:=hC.toV;subst e;have g:=fun j(O:j<4)v(J:[Value.int .i64 l[i].kind,.string l[i].text,.slice A l[i].kids.length cp,.int .i64 l[i].pos][j]? = some v)=>hc (i*4+j) v (by rw[I j O];exact J);have D:=g 0 (by omega) _ rfl;exact⟨b,off,A,cp,eA,hX,jD w _ D,D,by simpa[Nat.add_assoc]using g 1 (by omega) _ rfl,by simpa[Nat.add_assoc]using g 2 (by omega) _ rfl,by simpa[Nat.add_assoc]using g 3 (by omega) _ rfl,A,cp,zs,rfl,h1,h2,h3⟩
theorem af.kidsV{X:Nat->Prop}{w:World}{k t a:Value}{A:Option Addr}{m c:Nat}{n:Nd}(h:af X w (.agg #[k,t,.slice A m c,a]) n):cV X w (.slice A m c) n.kids:=by obtain⟨M,c1,xs,e,J,I,D⟩:=h;injection e with e;injection e with e;simp only[qx,vy]at e;obtain⟨_,_,e,_⟩:=e;exact⟨M,c1,xs,e,J,I,D⟩
theorem uI(E:cw)(F:fK)(hF:nE E F):d9 E (ez F) 108:=by
 intro w s h hno;generalize I:ez F E.c s=res at *;have O:=hid I;have gm:=hid hno;have J:=h.lt;clear I hno;(go_enter func108,ntmps108);go_wp2_with fail;refine(bL E s _ (h.alloc _)).mono ?_;unfold fY;rintro e w1⟨rfl,D⟩;have U:=((cJ.refl h).alloc _).step D;have ge:=(aq.new w 24 bJ).below D (by simp);have gt:=ge.lt;clear D;go_wp2_with fail;cases hA:aP E.c s ⟨#[105,110,116,101,114,102,97,99,101]⟩with
 |true=>
  have HE:Hid (iJ F (aD E.c s) E.c (adv s)=res):=hid (by rw[<-O.out,ez,gG hA]);refine(aZ E s _ w1 U.rd hA).mono ?_;rintro e w2⟨rfl,gj⟩;have gl:=ge.grown gj.gr;have gd:=U.moved.trans gj;have gz:=gj.gr.size;clear O hA ge U;go_wp2_with fail;refine(yQ E F hF _ w2 (adv s) gj.rd (by rw[show iJ F (az E.c s.at_).pos E.c (adv s)=res from HE.out];exact gm.out)).mono ?_;rw[show iJ F (az E.c s.at_).pos E.c (adv s)=res from HE.out];cases I:res with
  |out=>exact absurd I gm.out
  |ok n s2=>rintro e w5⟨⟨v,rfl,hv⟩,gu⟩;obtain⟨A,cp,rfl,hC⟩:=hv.toC;have gx:=gl.grown gu.gr;obtain⟨d0,d1,d2,d3,e0,e1,e2,e3⟩:=ab gx;have HF:=hid I;clear HE I gm;go_wp2_with fail;refine av HF.out hv (gd.trans gu) gx (gC _) J ?_ rfl (by rfl) rfl;intro b hb;constructor<;>omega
 | false=>
  have HE:=hid (show(fv F (aD E.c s) E.c s).bind (fun n s1=>.ok ((yN n).getD n) s1)=res by rw[<-O.out,ez];simp only[hA,gW,jW]);refine(bB E s _ w1 U.rd hA).mono ?_;rintro e w2⟨rfl,gh⟩;have gl:=ge.below gh.bel gt;have gd:=U.moved.trans gh.moved;have gz:=gh.bel.size;clear O hA ge U gh;go_wp2_with fail;cases hP:fv F (aD E.c s) E.c s with
  |out=>exact absurd HE.out.symm (by rw[hP];exact gm.out)
  | ok n s1=>
   have HF:Hid (res=.ok ((yN n).getD n) s1):=hid (by rw[<-HE.out,hP];rfl);obtain⟨gw,gv⟩:=Ca F _ _ _ _ _ hP;refine(yP E F hF _ w2 s gd.rd (by rw[show fv F (az E.c s.at_).pos E.c s=_ from hP];exact nofun)).mono ?_;rw[show fv F (az E.c s.at_).pos E.c s=_ from hP];rintro e w3⟨⟨v,rfl,hv⟩,gi⟩;obtain⟨A,cp,rfl,hC⟩:=hv.toC;have gb:=gl.grown gi.gr;have gk:=gd.trans gi;have g6:=gi.gr.size;have g0:=gb.lt;clear hP HE gi gl gd;obtain⟨nk,nt,nl,np⟩:=n;rcases nl with _|⟨tn,rest⟩
   ·simp at gw
   have gs:=gv tn (by simp);obtain⟨tk,tt,tl,tp⟩:=tn;rcases tl with _|⟨kn,gy⟩
   ·simp at gs
   (obtain rfl:gy=[]:=by simpa using gs);clear gw gv gs;have HV:=hid hv;obtain⟨b,off,A1,c1,eA,g9,g8,k0,k1,k2,k3,gq⟩:=hv.kidsV.kid 0 (by simp);obtain⟨b',off',A2,c2,eA',g5,g4,j0,j1,j2,j3,gp⟩:=gq.kidsV.kid 0 (by simp);simp only[Nd.kids_mk,Nd.kind_mk,Nd.text_mk,Nd.pos_mk,gN,jF,gZ]at eA eA' k0 k1 k2 k3 j0 j1 j2 j3 gp gq;subst eA eA';have g2:=hid gp;have gn:=hid (show(yN (.mk nk nt (.mk tk tt [kn] tp::rest) np)).getD (.mk nk nt (.mk tk tt [kn] tp::rest) np)=if rest.length+1=1/\tt=(⟨#[]⟩:BA)/\kn.kind=10 then kn else .mk nk nt (.mk tk tt [kn] tp::rest) np by
    unfold yN;cases rest with
    |nil=>
     simp only[Nd.kids_mk,Nd.text_mk,qd,kR,true_and];by_cases hc:tt=(⟨#[]⟩:BA)/\kn.kind=10
     ·simp only[hc,and_self,kG,vk]
     ·simp only[hc,jW,vn]
    |cons x r=>simp)
   clear hv gq gp hC;simp only[Nd.kids_mk,Nd.kind_mk,Nd.text_mk,Nd.pos_mk,gO,qd,kR]at k2 |-;(have g3:b≠w3.heap.size:=by omega);(have g1:b'≠w3.heap.size:=by omega);(have ha:w.heap.size≠w3.heap.size:=by omega);(have g7:(0:Int)<((rest.length+1:Nat):Int):=by omega);obtain⟨d0,d1,d2,d3,e0,e1,e2,e3⟩:=ab gb;generalize hmm:rest.length+1=m at *;by_cases D:m=1
   ·by_cases M:tt=(⟨#[]⟩:BA)
    ·(have t2:tt.toList.isEmpty=true:=by rw[ao];simp[M]);by_cases ga:kn.kind=10
     ·have N:Hid (res=.ok kn s1):=hid (by rw[HF.out,gn.out,gG ⟨D,M,ga⟩]);(have t3:(kn.kind==10)=true:=by simp[ga]);(have t1:((m:Int)==1)=true:=by rw[D];rfl);clear D M ga hmm;go_wp2_with fail;refine pH _ _ N.out g2.out gk gb (gC _) J ?_ rfl (by rfl) rfl;intro b hb;constructor<;>omega
     ·have N:Hid (res=.ok (.mk nk nt (.mk tk tt [kn] tp::rest) np) s1):=hid (by rw[HF.out,gn.out,gB (fun h=>ga h.2.2)]);(have t3:(kn.kind==10)=false:=by simp[ga]);(have t1:((m:Int)==1)=true:=by rw[D];rfl);(have gg:Hid (af (fun b=>w2.heap.size<=b) w3 (.agg #[.int .i64 nk,.string nt,.slice (some ⟨b,off,none⟩) m cp,.int .i64 np]) (.mk nk nt (.mk tk tt [kn] tp::rest) np)):=by have:=HV.out;simp only[Nd.kids_mk,Nd.kind_mk,Nd.text_mk,Nd.pos_mk,gO]at this;rw[hmm]at this;exact hid this);clear D M ga hmm;go_wp2_with fail;refine pH _ _ N.out gg.out gk gb (gC _) J ?_ rfl (by rfl) rfl;intro b hb;constructor<;>omega
    ·have N:Hid (res=.ok (.mk nk nt (.mk tk tt [kn] tp::rest) np) s1):=hid (by rw[HF.out,gn.out,gB (fun h=>M h.2.1)]);(have t2:tt.toList.isEmpty=false:=by rw[ao];simp[M]);(have t1:((m:Int)==1)=true:=by rw[D];rfl);(have gg:Hid (af (fun b=>w2.heap.size<=b) w3 (.agg #[.int .i64 nk,.string nt,.slice (some ⟨b,off,none⟩) m cp,.int .i64 np]) (.mk nk nt (.mk tk tt [kn] tp::rest) np)):=by have:=HV.out;simp only[Nd.kids_mk,Nd.kind_mk,Nd.text_mk,Nd.pos_mk,gO]at this;rw[hmm]at this;exact hid this);clear D M hmm;go_wp2_with fail;refine pH _ _ N.out gg.out gk gb (gC _) J ?_ rfl (by rfl) rfl;intro b hb;constructor<;>omega
   ·have N:Hid (res=.ok (.mk nk nt (.mk tk tt [kn] tp::rest) np) s1):=hid (by rw[HF.out,gn.out,gB (fun h=>D h.1)]);(have t1:((m:Int)==1)=false:=by rw[gF];omega);(have gg:Hid (af (fun b=>w2.heap.size<=b) w3 (.agg #[.int .i64 nk,.string nt,.slice (some ⟨b,off,none⟩) m cp,.int .i64 np]) (.mk nk nt (.mk tk tt [kn] tp::rest) np)):=by have:=HV.out;simp only[Nd.kids_mk,Nd.kind_mk,Nd.text_mk,Nd.pos_mk,gO]at this;rw[hmm]at this;exact hid this);clear D hmm;go_wp2_with fail;refine pH _ _ N.out gg.out gk gb (gC _) J ?_ rfl (by rfl) rfl;intro b hb;constructor<;>omega
theorem LG(a:Array Value)(w:World):(callFunc 107 a).run prog w=.ok (.enter 107 a) w:=by kernel_rfl
theorem tO(E:cw)(F:fK)(hF:nE E F):d9 E (eR F) 74:=by
 intro w s h hno;generalize hres:eR F E.c s=res at *;have D:=hid hres;have g9:=hid hno;have hl:=h.lt;have hf:=h.most;clear hres hno;(go_enter func74,ntmps74);go_wp2_with fail;have g8:aq ((w.alloc (.cells #[E.R] 41)).alloc (.cells bJ 24)) w.heap.size 41 #[E.R]:=(aq.new w _ _).alloc _;(have g5:aq ((w.alloc (.cells #[E.R] 41)).alloc (.cells bJ 24)) (w.heap.size+1) 24 bJ:=by have:=aq.new (w.alloc (.cells #[E.R] 41)) 24 bJ;simpa using this);refine(bL E s _ ((h.alloc _).alloc _)).mono ?_;unfold fY;rintro e w1⟨rfl,U⟩;have gw:=(((cJ.refl h).alloc _).alloc _).step U;have gp:=g5.below U (by simp);have g7:=g8.below U (by simp;omega);have gi:=gp.lt;clear U g5 g8;go_wp2_with fail;refine(aM _ _ _ _ _ ⟨_,_,_,rfl⟩).mono ?_;rintro e w2⟨rfl,O⟩;have gx:=gw.moved.step O;have g4:=gp.below O gi;have ge:=g7.below O (by omega);have hu:=O.size;have b2:=ge.cell 0;simp at b2;have gj:=ge.lt;have he:=qi gj;clear O gp g7 gw;go_wp2_with fail;have g0:=aq.new w2 24 #[.int .i64 6,.string ⟨#[]⟩,.slice none 0 0,.int .i64 (aD E.c s)];have g3:=g4.alloc (.cells #[.int .i64 6,.string ⟨#[]⟩,.slice none 0 0,.int .i64 (aD E.c s)] 24);have g6:=ge.alloc (.cells #[.int .i64 6,.string ⟨#[]⟩,.slice none 0 0,.int .i64 (aD E.c s)] 24);have gl:=gx.alloc (.cells #[.int .i64 6,.string ⟨#[]⟩,.slice none 0 0,.int .i64 (aD E.c s)] 24);refine(bY E s _ _ gl.rd).mono ?_;rintro e w4⟨rfl,M⟩;(have ht:w2.heap.size+1<=w4.heap.size:=by have:=M.size;simp at this;omega);have gn:=g0.below M (by simp);have gd:=g3.below M (by simp;omega);have gt:=g6.below M (by simp;omega);have ga:=gl.step M;have b4:=gt.cell 0;simp at b4;clear g0 g3 g6 gl M g4 ge gx b2;cases hI:aP E.c s ⟨#[91]⟩with
 |false=>have HF:Hid (res=.ok (.mk 6 ⟨#[]⟩ [] 0) s):=hid (by rw[<-D.out,eR];simp[hI]);obtain⟨x0,x1,x2,x3,y0,y1,y2,y3⟩:=ab gn;obtain⟨d0,d1,d2,d3,e0,e1,e2,e3⟩:=ab gd;(have gg:w2.heap.size≠w.heap.size+1:=by omega);clear D;go_wp2_with fail;refine av (X:=fun _=>False) HF.out (af.leaf _ _ _) (ga.own (p:=⟨w2,3,none⟩) (by show w.heap.size<=w2.heap.size;omega) (by show E.R<w2.heap.size;omega) _) (gd.far (p:=⟨w2,3,none⟩) (by show w.heap.size+1≠w2.heap.size;omega) _) (by omega) (by omega) ?_ rfl (by rfl) rfl;exact fun _ h=>h.elim
 | true=>
  go_wp2_with fail;refine(pG E s _ ga.rd).mono ?_;rintro e w5⟨rfl,I⟩;have gm:=gn.below I.bel (by omega);have gb:=gd.below I.bel (by omega);have gs:=gt.below I.bel (by omega);have N:=ga.trans I.moved;have hr:=I.bel.size;clear gn gd gt ga I b4;cases hJ:cY E.c s with
  |true=>have HF:Hid (res=.ok (.mk 6 ⟨#[]⟩ [] 0) s):=hid (by rw[<-D.out,eR];simp[hI,hJ]);obtain⟨x0,x1,x2,x3,y0,y1,y2,y3⟩:=ab gm;obtain⟨d0,d1,d2,d3,e0,e1,e2,e3⟩:=ab gb;(have gg:w2.heap.size≠w.heap.size+1:=by omega);clear D;go_wp2_with fail;refine av (X:=fun _=>False) HF.out (af.leaf _ _ _) (N.own (p:=⟨w2,3,none⟩) (by show w.heap.size<=w2.heap.size;omega) (by show E.R<w2.heap.size;omega) _) (gb.far (p:=⟨w2,3,none⟩) (by show w.heap.size+1≠w2.heap.size;omega) _) (by omega) (by omega) ?_ rfl (by rfl) rfl;exact fun _ h=>h.elim
  | false=>
   have gv:=hid (show(bh (ev F) ⟨#[93]⟩ F.g [] E.c (adv s)).bind (fun l s1=>if l.length=0 then .out else .ok (.mk 6 ⟨#[]⟩ l (aD E.c s)) s1)=res by rw[<-D.out,eR];simp[hI,hJ]);have hn:=oZ N.rd hI;obtain⟨c0,c1,c2,c3,c4,f0⟩:=N.rd.cells;have f1:=f0 1;have hg:=N.rd.lt;have b5:=gs.cell 0;simp at b5;(have gh:w.heap.size≠E.R:=by omega);clear D hI hJ f0;go_wp2_with fail;have gk:=N.setAt (s.at_+1) (by omega);have gz:=gm.far (p:=⟨E.R,1,none⟩) (by show w2.heap.size≠E.R;omega) (.int .i64 ((s.at_+1:Nat):Int));have g2:=gb.far (p:=⟨E.R,1,none⟩) (by show w.heap.size+1≠E.R;omega) (.int .i64 ((s.at_+1:Nat):Int));have gq:=gs.far (p:=⟨E.R,1,none⟩) (by show w.heap.size≠E.R;omega) (.int .i64 ((s.at_+1:Nat):Int));(have hq:w5.heap.size<=(w5.setCell ⟨E.R,1,none⟩ (.int .i64 ((s.at_+1:Nat):Int))).heap.size:=by simp);clear gm gb gs N c0 c1 c2 c3 c4 f1 b5;cases hP:bh (ev F) ⟨#[93]⟩ F.g [] E.c (adv s)with
   |out=>exact absurd gv.out.symm (by rw[hP];exact g9.out)
   | ok l s2=>
    have gu:=hid (show(if l.length=0 then .out else .ok (.mk 6 ⟨#[]⟩ l (aD E.c s)) s2)=res by rw[<-gv.out,hP];rfl);refine(oa E 107 #[] #[w] (ev F) ⟨#[93]⟩ F.g (adv s) _ gk.rd LG (DS E F (uI E F hF) w.heap.size _ gq gh) (by rw[hP];exact nofun) hF.g).mono ?_;rw[hP];rintro e w7⟨⟨v,rfl,hv⟩,J⟩;have gy:=gz.grown J.gr;have g1:=g2.grown J.gr;have hj:=gq.grown J.gr;have hi:=gk.trans J;have hp:=J.gr.size;have ha:=hv.mono (Y:=fun b=>w2.heap.size+1<=b) (fun b hb _=>by omega);obtain⟨A,cp,xs,rfl,_,_,_⟩:=hv;obtain⟨x0,x1,x2,x3,y0,y1,y2,y3⟩:=ab gy;have hm:=gy.lt;have b7:=hj.cell 0;simp at b7;(have hc:w.heap.size≠w2.heap.size:=by omega);clear gv hP gz g2 gq gk J;by_cases hz:l.length=0
    ·have HF:Hid (res=.out):=hid (by rw[<-gu.out,gG hz]);exact absurd (HF.out) g9.out
    ·have HF:Hid (res=.ok (.mk 6 ⟨#[]⟩ l (aD E.c s)) s2):=hid (by rw[<-gu.out,gB hz]);(have ho:((l.length:Int)==0)=false:=by rw[gF];omega);obtain⟨d0,d1,d2,d3,e0,e1,e2,e3⟩:=ab g1;(have hk:w.heap.size+1≠w2.heap.size:=by omega);clear gu hz;go_wp2_with fail;have hh:=hi.own (p:=⟨w2,2,none⟩) (by show w.heap.size<=w2.heap.size;omega) (by show E.R<w2.heap.size;omega) (.slice A l.length cp);refine av (X:=fun b=>w2.heap.size+1<=b) HF.out ?_ hh (g1.far (p:=⟨w2,2,none⟩) (by show w.heap.size+1≠w2.heap.size;omega) (.slice A l.length cp)) (by omega) (by omega) ?_ rfl (by rfl) rfl
     ·exact(af.of_slice ha 6 ⟨#[]⟩ (aD E.c s)).kept ((am.refl _ _).setCell (fun hX=>by simp at hX;omega) _)
     ·intro b hb;constructor<;>omega
theorem af.cells{X:Nat->Prop}{w:World}{k t a:Value}{A:Option Addr}{m c:Nat}{n:Nd}(h:af X w (.agg #[k,t,.slice A m c,a]) n):bG X w n [.int .i64 n.kind,.string n.text,.slice A n.kids.length c,.int .i64 n.pos]:=by obtain⟨I,c1,e,D⟩:=h.toC;injection e with e;injection e with e;simp only[qx,vy]at e;obtain⟨_,_,e,_⟩:=e;injection e with e1 _ e3;rw[e1,e3];exact D
theorem Ea(E:cw)(F:fK)(hF:nE E F)(p:Int)(w:World)(s:St)(h:aU E w s)(hf:i8 F p E.c s≠.out):
  Calls prog 115 #[E.R,p] w (mu E w (i8 F p E.c s)):=by
 generalize hres:i8 F p E.c s=res at *;have gn:=hid hres;have gs:=hid hf;have hh:=h.lt;have hn:=(aA.refl h).alloc (.cells bJ 24);clear hres hf;(go_enter func115,ntmps115);go_wp2_with fail;refine(aM _ _ _ _ _ ⟨_,_,_,rfl⟩).mono ?_;rintro e w2⟨rfl,g2⟩;have g8:=(aq.new w 24 bJ).below g2 (by simp);have hl:=hn.step g2;have h6:=g8.lt;clear g2 hn;go_wp2_with fail;have hq:=aq.new w2 24 #[.int .i64 13,.string ⟨#[]⟩,.slice none 0 0,.int .i64 p];have hy:=g8.alloc (.cells #[.int .i64 13,.string ⟨#[]⟩,.slice none 0 0,.int .i64 p] 24);have g4:=hl.alloc (.cells #[.int .i64 13,.string ⟨#[]⟩,.slice none 0 0,.int .i64 p] 24);cases hA:aP E.c s ⟨#[123]⟩with
 |false=>exact absurd (show res=.out by rw[<-gn.out,i8,bV];simp[hA]) gs.out
 | true=>
  have HE:Hid (cU F p F.g [] E.c (adv s)=res):=hid (by rw[<-gn.out,i8,bV];simp only[hA,kG,bQ.bind_ok]);refine(de E s _ _ g4.rd hA).mono ?_;rintro e w4⟨rfl,N⟩;have U:=hq.grown N.gr;have O:=hy.grown N.gr;have gd:=g4.trans N;generalize hL:w2.heap.size=L at *;(have jf:w.heap.size<L:=by omega);clear hq hy g4 N hA gn g8 hl hL;go_wp2_with fail;go_loopg [6,7] F.g (fun g _ _ wr=>∃(acc:List Nd)(s':St)(u:Value),aq wr L 24 #[.int .i64 13,.string ⟨#[]⟩,u,.int .i64 p]/\ik (w.heap.size+1) (fun b=>b=L) wr u acc/\aq wr w.heap.size 24 bJ/\acc.length+g<=1000001/\cU F p g acc E.c s'=res/\aA E s' w wr)
  case atStart=>exact⟨[],adv s,_,U,ik.nil _ _ _,O,by have:=hF.g;simp;omega,HE.out,gd⟩
  case round=>
   clear U O gd HE;obtain⟨acc,I,u,hL,HO,hG,jg,hr,hM⟩:=hrel;have HR:=hid hr;clear hr;cases gk with
   |zero=>exact absurd HR.out.symm (by rw[cU];exact gs.out)
   | succ g1=>
    cases hA:aP E.c I ⟨#[125]⟩with
    |true=>have HF:=hid (show res=.ok (.mk 13 ⟨#[]⟩ acc p) (adv I)by rw[<-HR.out,cU];simp only[hA,kG]);clear HR;go_wp2_with fail;refine(aZ E I _ _ hM.rd hA).mono ?_;rintro e w4⟨rfl,N⟩;have U:=hL.grown N.gr;have O:=hG.grown N.gr;have gp:=HO.grown N.gr (by omega);obtain⟨A4,c4,gy,_⟩:=gp.form;subst gy;obtain⟨x0,x1,x2,x3,_,_,_,_⟩:=ab U;obtain⟨d0,d1,d2,d3,e0,e1,e2,e3⟩:=ab O;clear hA;go_wp2_with fail;refine av HF.out (af.of_slice gp.values 13 ⟨#[]⟩ p) (hM.trans N) O (gC _) hh ?_ rfl (by rfl) rfl;rintro b⟨hb,_⟩;constructor<;>omega
    | false=>
     have HE:=hid (show(cT E.c I).bind (fun x s1=>(F.typ E.c s1).bind fun t D=>if d6 E.c D then cU F p g1 (acc++[.mk 9 x [t] (aD E.c I)]) E.c (adv D)else if aP E.c D ⟨#[125]⟩then cU F p g1 (acc++[.mk 9 x [t] (aD E.c I)]) E.c D else .out)=res by rw[<-HR.out,cU];simp only[hA,gW,jW]);clear HR;go_wp2_with fail;refine(bB E I _ _ hM.rd hA).mono ?_;rintro e w4⟨rfl,ge⟩;have U:=hL.bl ge.bel;have O:=hG.bl ge.bel;have gp:=HO.kept (am.of_below ge.bel (fun b _ hlt=>hlt));have gd:=hM.trans ge.moved;clear hA hL hG HO hM ge;go_wp2_with fail;refine(bL E I _ gd.rd).mono ?_;unfold fY;rintro e w5⟨rfl,gi⟩;have hp:=U.bl gi;have hw:=O.bl gi;have h0:=gp.kept (am.of_below gi (fun b _ hlt=>hlt));have g3:=gd.step gi;clear U O gp gd gi;go_wp2_with fail;by_cases hN:(az E.c I.at_).kind=1
     case neg=>exact absurd (show res=.out by rw[<-HE.out,cT,gB hN];rfl) gs.out
     have hc:=hid (show(F.typ E.c (adv I)).bind (fun t D=>if d6 E.c D then cU F p g1 (acc++[.mk 9 (az E.c I.at_).text [t] (aD E.c I)]) E.c (adv D)else if aP E.c D ⟨#[125]⟩then cU F p g1 (acc++[.mk 9 (az E.c I.at_).text [t] (aD E.c I)]) E.c D else .out)=res by rw[<-HE.out,cT,gG hN];rfl);refine(lg E I _ g3.rd hN).mono ?_;rintro e w6⟨rfl,gh⟩;have g7:=hp.grown gh.gr;have jb:=hw.grown gh.gr;have g9:=h0.grown gh.gr (by omega);have hk:=g3.trans gh;clear HE hN hp hw h0 g3 gh;obtain⟨A4,c4,gy,_⟩:=g9.form;subst gy;obtain⟨x0,x1,x2,x3,y0,y1,y2,y3⟩:=ab g7;have g0:=g7.lt;generalize(az E.c I.at_).text=tx at *;cases hP:F.typ E.c (adv I)with
     |out=>exact absurd hc.out.symm (by rw[hP];exact gs.out)
     | ok n2 D=>
      have gt:=hid (show(if d6 E.c D then cU F p g1 (acc++[.mk 9 tx [n2] (aD E.c I)]) E.c (adv D)else if aP E.c D ⟨#[125]⟩then cU F p g1 (acc++[.mk 9 tx [n2] (aD E.c I)]) E.c D else .out)=res by rw[<-hc.out,hP];rfl);have HC:=hid (fun W(hr:aU E W (adv I))=>hF.typ W (adv I) hr (by rw[hP];exact nofun));rw[hP]at HC;clear hc hP;go_wp2_with fail;(have hi:acc.length<=1000000:=by omega);(have hj:E.R<w.heap.size+1:=by omega);(have he:w.heap.size+1<=w6.heap.size:=by omega);go_region_law (first
       |(refine fM (by rfl) (.tmp 21) (.tmp 28) (by rfl) E D (w.heap.size+1) w6.heap.size (fun b=>b=L) w w8 (.slice A4 acc.length c4) acc (.mk 9 tx [n2] (aD E.c I)) _ _ (by rfl) (by rfl) jd h8 (jN _) hj he h3 (fun b hb=>by rw[hb];exact g0) (fun g hg=>(g9.lt g hg).2) hi h7.cells ?_;intro g c w9 gu;have ho:aq w9 L 24 #[.int .i64 13,.string ⟨#[]⟩,.slice A4 acc.length c4,.int .i64 p]:=(gu.old L gz (.inl rfl)).trans g5;obtain⟨v0,v1,v2,v3,f0,f1,f2,f3⟩:=ab ho)
       |(go_simp;(go_at_call 110);refine(HC.out _ hk.drew.rd).mono ?_;rintro e w7⟨⟨v,rfl,h2⟩,gg⟩;obtain⟨A7,c7,rfl,jc⟩:=h2.toC;have g6:=g7.drew.grown gg.gr;have hv:=jb.drew.grown gg.gr;have je:=(g9.kept ((am.refl _ _).drew)).grown gg.gr hj;have ja:=hk.drew.trans gg;have h4:w6.heap.size<=w7.heap.size:=gg.gr.size;have h5:=g6.lt;obtain⟨z0,z1,z2,z3,_,_,_,_⟩:=ab g6)
       |(go_simp;(go_at_call 55);refine(aM _ _ _ _ _ ⟨_,_,_,rfl⟩).mono ?_;rintro e w8⟨rfl,gb⟩;have h7:=(af.make 1 rfl (ah.one jc) 9 tx (aD E.c I) gb).mono (Y:=fun b=>w6.heap.size<=b) (fun b hb _=>hb.elim (fun h=>h.1) (fun h=>by rw[h];exact h4));have g5:=(g6.alloc _).below gb (by simp;omega);have hu:=(hv.alloc _).below gb (by have:=hv.lt;simp;omega);have jd:=(je.kept ((am.refl _ _).alloc _)).kept (am.of_below gb (fun b _ hlt=>hlt));have h8:=(ja.alloc _).step gb;(have h3:w6.heap.size<=w8.heap.size:=by have:=gb.size;simp at this;omega);have gz:=g5.lt;obtain⟨u0,u1,u2,u3,_,_,_,_⟩:=ab g5))
      (all_goals go_wp2_with fail);all_goals
       have gj:=gu.mov.own (p:=⟨L,2,none⟩) (by show w.heap.size<=L;omega) (by show E.R<L;omega) (.slice (some ⟨g,0,none⟩) (acc.length+1) c);(have gv:aq (w9.setCell ⟨L,2,none⟩ (.slice (some ⟨g,0,none⟩) (acc.length+1) c)) L 24 #[.int .i64 13,.string ⟨#[]⟩,.slice (some ⟨g,0,none⟩) (acc.length+1) c,.int .i64 p]:=by simpa using ho.set_ 2 (.slice (some ⟨g,0,none⟩) (acc.length+1) c));have gw:=aq.far (show aq w9 w.heap.size 24 bJ from(gu.old w.heap.size (by have:=hu.lt;omega) (.inr (by omega))).trans hu) (p:=⟨L,2,none⟩) (by show w.heap.size≠L;omega) (.slice (some ⟨g,0,none⟩) (acc.length+1) c);have gx:=gu.own.kept ((am.refl _ _).setCell (p:=⟨L,2,none⟩) (fun hX=>hX.2 rfl) (.slice (some ⟨g,0,none⟩) (acc.length+1) c));refine(ld E D _ gj.rd).mono ?_;rintro e w11⟨rfl,J⟩;have gl:=gv.grown J.gr;have gm:=gw.grown J.gr;have gq:=gx.grown J.gr (by omega);have M:=gj.trans J;clear gj gv gw gx;cases hS:d6 E.c D with
       |true=>
        have ha:Hid (cU F p g1 (acc++[.mk 9 tx [n2] (aD E.c I)]) E.c (adv D)=res):=hid (by rw[<-gt.out];simp only[hS,kG]);rw[show fB E.c D=adv D by unfold fB;rw[hS];rfl]at M;clear gt J;go_wp2_with fail;go_roundg g1
        case measure=>omega
        case rel=>exact⟨acc++[.mk 9 tx [n2] (aD E.c I)],adv D,_,gl,gq,gm,by rw[gM];simp;omega,ha.out,M⟩
       | false=>
        rw[show fB E.c D=D by unfold fB;rw[hS];rfl]at M;go_wp2_with fail;refine(bY E D _ _ M.rd).mono ?_;rintro e w12⟨rfl,ga⟩;have ht:=gl.bl ga;have hz:=gm.bl ga;have h1:=gq.kept (am.of_below ga (fun b _ hlt=>hlt));have hm:=M.step ga;clear gl gm gq M J;cases hI:aP E.c D ⟨#[125]⟩with
        |true=>
         have ha:Hid (cU F p g1 (acc++[.mk 9 tx [n2] (aD E.c I)]) E.c D=res):=hid (by rw[<-gt.out];simp only[hS,hI,gW,jW,kG]);clear gt;go_wp2_with fail;go_roundg g1
         case measure=>omega
         case rel=>exact⟨acc++[.mk 9 tx [n2] (aD E.c I)],D,_,ht,h1,hz,by rw[gM];simp;omega,ha.out,hm⟩
        |false=>have HF:Hid (res=.out):=hid (by rw[<-gt.out];simp only[hS,hI,gW,jW]);exact absurd (HF.out) gs.out
end
end Go.Proofs.YteialcjaiocjdaaGreatDoor
