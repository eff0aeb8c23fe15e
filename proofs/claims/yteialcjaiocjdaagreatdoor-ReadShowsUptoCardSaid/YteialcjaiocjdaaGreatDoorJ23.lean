/-
  Parts of the proof: Rfile Rcatch Rloop. By an AI agent.
-/
import Derived.Test.YteialcjaiocjdaaGreatDoorJ22
import Derived.Test.YteialcjaiocjdaaGreatDoorJ08
import Derived.BigQuiet
import Derived.Defers
import Derived.Recover
import Derived.Deep.DeepCutAuto
open Go.Proofs.Tryz
set_option maxRecDepth 100000
set_option maxHeartbeats 8000000
namespace Go.Proofs.YteialcjaiocjdaaGreatDoor
section
open Go.RowKit Go.Lib Go.Proofs
attribute [local go_sem ↓] Go.wp_at_zero Go.wp_at_succ
attribute [local go_sem] aR aS aT bu bv bw bz
theorem LI (E:cw)(F:fK)(hF:nE E F):d9 E (oN F) 23:=by
 intro w s h hno;generalize hres:oN F E.c s=res at *;have ge:=hid hres;have M:=hid hno;have ha:=h.lt;have hl:=(aA.refl h).alloc (.cells bJ 24);clear hres hno;(go_enter func23,ntmps23);go_wp2_with fail;refine(bL E s _ (h.alloc _)).mono ?_;unfold fY;rintro e w1⟨rfl,gx⟩;have g5:=(aq.new w 24 bJ).below gx (by simp);have g0:=hl.step gx;have h0:=g5.lt;clear gx hl;go_wp2_with fail;cases hA:aP E.c s ⟨#[112,97,99,107,97,103,101]⟩with
 |false=>exact absurd (show res=.out by rw[<-ge.out,oN,bV];simp[hA]) M.out
 | true=>
  have HE:=hid (show(cT E.c (adv s)).bind (fun x D=>iK F (aD E.c s) x F.g [] E.c D)=res by rw[<-ge.out,oN,bV];simp only[hA,kG,bQ.bind_ok]);refine(de E s _ _ g0.rd hA).mono ?_;rintro e w2⟨rfl,gh⟩;have ht:=g5.grown gh.gr;have gz:=g0.trans gh;have h7:=gh.gr.size;clear ge hA g5 g0 gh;go_wp2_with fail;by_cases hN:(az E.c (adv s).at_).kind=1
  case neg=>exact absurd (show res=.out by rw[<-HE.out,cT,gB hN];rfl) M.out
  have N:Hid (iK F (aD E.c s) (az E.c (adv s).at_).text F.g [] E.c (adv (adv s))=res):=hid (by rw[<-HE.out,cT,gG hN];rfl);refine(lg E (adv s) _ gz.rd hN).mono ?_;rintro e w3⟨rfl,gg⟩;have hq:=ht.grown gg.gr;have hj:=gz.trans gg;have h6:=gg.gr.size;clear HE hN ht gz gg;generalize(az E.c (adv s).at_).text=tx at *;generalize hpp:aD E.c s=p at *;rw[show(az E.c s.at_).pos=p from hpp];clear hpp;go_wp2_with fail;refine(aM _ _ _ _ _ ⟨_,_,_,rfl⟩).mono ?_;rintro e w4⟨rfl,gw⟩;have g4:=hq.bl gw;have hi:=hj.step gw;have hz:=g4.lt;clear gw hj hq;have hn:=aq.new w4 24 #[.int .i64 1,.string tx,.slice none 0 0,.int .i64 p];have hp:=g4.alloc (.cells #[.int .i64 1,.string tx,.slice none 0 0,.int .i64 p] 24);have hh:=hi.alloc (.cells #[.int .i64 1,.string tx,.slice none 0 0,.int .i64 p] 24);go_wp2_with fail;generalize hL:w4.heap.size=L at *;(have h4:w.heap.size<L:=by omega);generalize w4.alloc (.cells #[.int .i64 1,.string tx,.slice none 0 0,.int .i64 p] 24)=w5 at *;clear g4 hi hL;go_loopg [] F.g (fun g wr=>∃(acc:List Nd)(s':St)(u:Value),aq wr L 24 #[.int .i64 1,.string tx,u,.int .i64 p]/\ik (w.heap.size+1) (fun b=>b=L) wr u acc/\aq wr w.heap.size 24 bJ/\acc.length+g<=1000001/\iK F p tx g acc E.c s'=res/\aA E s' w wr)
  case atStart=>exact⟨[],adv (adv s),_,hn,ik.nil _ _ _,hp,by have:=hF.g;simp;omega,N.out,hh⟩
  case round=>
   clear hn hp hh N;obtain⟨acc,D,u,hL,HO,hG,h5,hr,hM⟩:=hrel;have HR:=hid hr;clear hr;cases gk with
   |zero=>exact absurd HR.out.symm (by rw[iK];exact M.out)
   | succ g1=>
    go_wp2_with fail;refine(ld E D _ hM.rd).mono ?_;rintro e w6⟨rfl,O⟩;have g3:=hL.grown O.gr;have gl:=hG.grown O.gr;have gm:=HO.grown O.gr (by omega);have gb:=hM.trans O;clear hL hG HO hM O;cases gj:d6 E.c D with
    |false=>have HF:Hid (res=.out):=hid (by rw[<-HR.out,iK];simp only[gj,gW,jW]);exact absurd (HF.out) M.out
    | true=>
     rw[show fB E.c D=adv D by unfold fB;rw[gj];rfl]at gb;obtain⟨c0,c1,-,-,-,-⟩:=gb.rd.cells;cases g6:(((adv D).at_:Int)==(E.c.toks.length:Int))with
     |true=>have HF:=hid (show res=.ok (.mk 1 tx acc p) (adv D)by have e:(adv D).at_=D.at_+1:=rfl;rw[kO]at g6;rw[<-HR.out,iK];simp only[gj,kG];rw[gG (by omega)]);clear HR;obtain⟨A4,c4,gq,_⟩:=gm.form;subst gq;go_wp2_with fail;go_quiet (fail);clear c0 c1;obtain⟨x0,x1,x2,x3,_,_,_,_⟩:=ab (g3.drewN nq);obtain⟨d0,d1,d2,d3,e0,e1,e2,e3⟩:=ab (gl.drewN nq);go_wp2_with fail;refine av HF.out (af.of_slice (gm.kept ((am.refl _ _).drewN nq)).values 1 tx p) (gb.drewN nq) (gl.drewN nq) (gC _) ha ?_ rfl (by rfl) rfl;rintro b⟨hb,_⟩;constructor<;>omega
     | false=>
      have HE:=hid (show(if aP E.c (adv D) ⟨#[102,117,110,99]⟩||(aP E.c (adv D) ⟨#[116,121,112,101]⟩||aP E.c (adv D) ⟨#[118,97,114]⟩)then(ib F E.c (adv D)).bind fun d s1=>iK F p tx g1 (acc++[d]) E.c s1 else .out)=res by have e:(adv D).at_=D.at_+1:=rfl;rw[gF]at g6;rw[<-HR.out,iK];simp only[gj,kG];rw[gB (show ¬ D.at_+1=E.c.toks.length by omega)]);clear HR;go_wp2_with fail;go_quiet (fail);clear c0 c1;have hm:=g3.drewN nq;have ho:=gl.drewN nq;have hu:=gm.kept ((am.refl _ _).drewN nq);have gy:=gb.drewN nq;generalize w6.drewN nq=w7 at *;clear g3 gl gm gb g6;generalize hc1:aP E.c (adv D) ⟨#[102,117,110,99]⟩=c1 at *;generalize hc2:aP E.c (adv D) ⟨#[116,121,112,101]⟩=c2 at *;generalize hc3:aP E.c (adv D) ⟨#[118,97,114]⟩=c3 at *;(go_upto_region 7 with fail);go_cut [39] (fun hw wx=>hw=.bool (!(c1||(c2||c3)))/\Below w7 w7 wx)
      case first=>
       have HI:=hid (fun(w':World)(hb:Below w7 w7 w')x=>bY E (adv D) x w' (gy.rd.below hb));go_wp2_with fail;refine(HI.out w7 (gH _ _) _).mono ?_;rw[hc1];rintro e wa⟨rfl,gv⟩;cases c1 with
       |true=>go_wp2_with fail;go_meet;exact⟨rfl,gv⟩
       |false=>
        go_wp2_with fail;refine(HI.out wa gv _).mono ?_;rw[hc2];rintro e wb⟨rfl,U⟩;have U:=au gv U;cases c2 with
        |true=>go_wp2_with fail;go_meet;exact⟨rfl,U⟩
        |false=>go_wp2_with fail;refine(HI.out wb U _).mono ?_;rw[hc3];rintro e wd⟨rfl,gu⟩;have gu:=au U gu;go_wp2_with fail;go_meet;exact⟨by cases c3<;>rfl,gu⟩
      case rest=>
       obtain⟨rfl,ga⟩:=hcut;have g2:=hm.bl ga;have h1:=ho.bl ga;have g7:=hu.kept (am.of_below ga (fun b _ hlt=>hlt));have hf:=gy.step ga;clear hm ho hu gy ga;cases gt:(c1||(c2||c3))with
       |false=>have HF:Hid (res=.out):=hid (by rw[<-HE.out,gt];rfl);exact absurd (HF.out) M.out
       | true=>
        have N:=hid (show(ib F E.c (adv D)).bind (fun d s1=>iK F p tx g1 (acc++[d]) E.c s1)=res by rw[<-HE.out,gt];rfl);clear HE gt;obtain⟨A4,c4,gq,_⟩:=g7.form;subst gq;obtain⟨x0,x1,x2,x3,y0,y1,y2,y3⟩:=ab g2;have gs:=g2.lt;cases hP:ib F E.c (adv D)with
        |out=>exact absurd N.out.symm (by rw[hP];exact M.out)
        | ok n2 s3=>
         have h3:Hid (iK F p tx g1 (acc++[n2]) E.c s3=res):=hid (by rw[<-N.out,hP];rfl);have HC:=hid (fun W(hr:aU E W (adv D))=>LH E F hF W (adv D) hr (by rw[hP];exact nofun));rw[hP]at HC;clear N hP;go_wp2_with fail;(have hc:acc.length<=1000000:=by omega);(have he:E.R<w.heap.size+1:=by omega);(have hy:w.heap.size+1<=wc.heap.size:=by omega);go_region_law (first
          |(refine fM (by rfl) (.tmp 43) (.tmp 46) (by rfl) E s3 (w.heap.size+1) wc.heap.size (fun b=>b=L) w w10 (.slice A4 acc.length c4) acc n2 A7 c7 (by rfl) (by rfl) hv hk (jN _) he hy g9 (fun b hb=>by rw[hb];exact gs) (fun g hg=>(g7.lt g hg).2) hc h2 ?_;intro g c w11 J;have gn:aq w11 L 24 #[.int .i64 1,.string tx,.slice A4 acc.length c4,.int .i64 p]:=(J.old L gi (.inl rfl)).trans gd;obtain⟨v0,v1,v2,v3,f0,f1,f2,f3⟩:=ab gn)
          |(go_simp;(go_at_call 58);refine(HC.out _ hf.drew.rd).mono ?_;rintro e w10⟨⟨v,rfl,g8⟩,I⟩;obtain⟨A7,c7,rfl,h2⟩:=g8.toC;have gd:=g2.drew.grown I.gr;have gp:=h1.drew.grown I.gr;have hv:=(g7.kept ((am.refl _ _).drew)).grown I.gr he;have hk:=hf.drew.trans I;have g9:wc.heap.size<=w10.heap.size:=I.gr.size;have gi:=gd.lt;obtain⟨z0,z1,z2,z3,_,_,_,_⟩:=ab gd))
         (all_goals go_wp2_with fail);all_goals
          go_roundg g1
          case measure=>omega
          case rel=>
           refine⟨acc++[n2],s3,_,by simpa using gn.set_ 2 (.slice (some ⟨g,0,none⟩) (acc.length+1) c),?_,?_,by rw[gM];simp;omega,h3.out,?_⟩
           ·exact J.own.kept ((am.refl _ _).setCell (fun hX=>hX.2 rfl) _)
           ·exact aq.far (show aq w11 w.heap.size 24 bJ from(J.old w.heap.size (by have:=gp.lt;omega) (.inr (by omega))).trans gp) (p:=⟨L,2,none⟩) (by show w.heap.size≠L;omega) _
           ·exact J.mov.own (p:=⟨L,2,none⟩) (by show w.heap.size<=L;omega) (by show E.R<L;omega) _
theorem LJ(p q r:Addr)(w:World):
  CallsD prog 50 #[.pointer (some p),.pointer (some q),.pointer (some r)] .returning w fun e u' w'=>e=.returned (.tuple #[])/\u'=.returning/\w'=w:=by
 refine callsD_of_wpS func50 rfl fun c₀ cs D=>?_;apply wpS_seq;apply wpS_region;simp[wpOpsS,go_sem,recoverD,D,ntmps50,Exit.thenS];apply wpS_seq;apply wpS_region;simp[wpOpsS,go_sem,Exit.thenS];refine wpS_cond (t:=false) (by simp[Act.eval,Array.replicate]) ?_;simp only[gW,jW];refine wpS_of_wp (wp_skip ?_);cases c₀
 simp_all[bodyPostS,results,results50]
theorem Ph(v:Value)(w:World):(Instr.typeAssert (.iface 60 v) 20 60 true).run prog w=.ok (.tuple #[v,.bool true]) w:=by kernel_rfl
attribute [local go_sem] Ph
def pd(F:fK)(a b:Nd):R (Nd×Nd×Nd):=fun c s=>(bV ⟨#[59]⟩ c s).bind fun _ s3=>(if aP c s3 ⟨#[123]⟩then .ok cc s3 else db (nz F) c s3).bind fun d s4=>.ok (a,b,d) s4
def re(F:fK)(a:Nd):R (Nd×Nd×Nd):=fun c s=>(bV ⟨#[59]⟩ c s).bind fun _ s1=>(if aP c s1 ⟨#[59]⟩then .ok cc s1 else db F.expr c s1).bind fun b s2=>pd F a b c s2
theorem se(F:fK)(c:Cx)(s:St):nA F c s=if aP c s ⟨#[59]⟩then re F cc c s else(db (fD F) c s).bind fun x s1=>if x.kind=29 then .out else if x.kind<26 then .ok (cc,x,cc) s1 else re F x c s1:=rfl
structure fQ(R K:Nat)(w w':World):Prop where
 os:w'.os=w.os
 tape:w'.tape=w.tape
 output:w'.output=w.output
 size:w.heap.size<=w'.heap.size
 block:∀k,k<w.heap.size->k≠R->k≠K->w'.heap[k]? = w.heap[k]?
section
variable {R K:Nat} {w w1 w2:World}
theorem fQ.refl(R K:Nat)(w:World):fQ R K w w:=⟨rfl,rfl,rfl,gC _,fun _ _ _ _=>rfl⟩
theorem fQ.step(h:fQ R K w w1)(D:w1.grownBy w2 (some R)):fQ R K w w2:=
 ⟨D.os.trans h.os,D.tape.trans h.tape,D.output.trans h.output,jZ h.size D.size,fun k hk h1 h2=>(D.block k (kK hk h.size) (fun e=>h1 (by injection e))).trans (h.block k hk h1 h2)⟩
theorem fQ.below(h:fQ R K w w1)(D:Below w1 w1 w2):fQ R K w w2:=h.step (di _ D)
theorem fQ.put(h:fQ R K w w1)(o:Nat)(a b c d:Value):fQ R K w (lp w1 K o a b c d):=
 ⟨h.os,h.tape,h.output,by rw[Ej];exact h.size,fun k hk h1 h2=>((fP (wk:=w1) (K:=K) (o:=o) (a:=a) (b:=b) (c:=c) (d:=d) (X:=fun b=>b≠K) (fun _ hb=>hb)).block k h2 (kK hk h.size)).trans (h.block k hk h1 h2)⟩
theorem fQ.grown{w0:World}(D:w0.grownBy w (some R))(I:w0.heap.size<=K)(h:fQ R K w w1):w0.grownBy w1 (some R):=
 ⟨h.os.trans D.os,h.tape.trans D.tape,h.output.trans D.output,jZ D.size h.size,fun k hk hne=>(h.block k (kK hk D.size) (fun e=>hne (by rw[e])) (by omega)).trans (D.block k hk hne)⟩
end
theorem aU.put{E:cw}{w:World}{s:St}(h:aU E w s){K:Nat}(D:E.R<K)(o:Nat)(a b c d:Value):aU E (lp w K o a b c d) s:=
 h.keep fun b hb=>(fP (wk:=w) (K:=K) (o:=o) (X:=fun b=>b≠K) (fun _ hb=>hb)).block b (by omega) (by have:=h.lt;omega)
abbrev sf(n:Nd)(A:Option Addr)(c:Nat):List Value:=[.int .i64 n.kind,.string n.text,.slice A n.kids.length c,.int .i64 n.pos]
abbrev rf:List Value:=[.int .i64 0,.string ⟨#[]⟩,.slice none 0 0,.int .i64 0]
def CF(E:cw)(K:Nat)(w:World)(r:bQ (Nd×Nd×Nd))(e:Ending)(w':World):Prop:=
 match r with
 | .ok (a,b,d) s=>e=.returned (.tuple #[])/\aU E w' s/\fQ E.R K w w'/\∃ca cb cd,aq w' K 24 (ca++cb++cd++rf).toArray/\bG (fun b=>w.heap.size<=b) w' a ca/\bG (fun b=>w.heap.size<=b) w' b cb/\bG (fun b=>w.heap.size<=b) w' d cd
 | .out=>False
theorem sW{w:World}{g o:Nat}{t:TypeId}{cs:Array Value}{a b c d:Value}(h:aq w g t cs)(I:cs[o]? = some a)(hb:cs[o+1]? = some b)(D:cs[o+2]? = some c)(hd:cs[o+3]? = some d):
  w.cell? ⟨g,o,none⟩=some a/\w.cell? ⟨g,o+1,none⟩=some b/\w.cell? ⟨g,o+2,none⟩=some c/\w.cell? ⟨g,o+3,none⟩=some d/\(w.frozen? ⟨g,o,none⟩=false/\w.frozen? ⟨g,o+1,none⟩=false/\w.frozen? ⟨g,o+2,none⟩=false/\w.frozen? ⟨g,o+3,none⟩=false):=
 ⟨(h.cell _).trans I,(h.cell _).trans hb,(h.cell _).trans D,(h.cell _).trans hd,h.frozen _,h.frozen _,h.frozen _,h.frozen _⟩
def yw(E:cw)(K L:Nat)(w:World)(s:St)(a b d:Nd)(w1:World):Prop:=
 aU E w1 s/\fQ E.R K w w1/\w1.cell? ⟨L,2,none⟩=some (.slice (some ⟨K,0,none⟩) 4 4)/\∃A1 c1 A2 c2 A3 c3,aq w1 K 24 (sf a A1 c1++sf b A2 c2++sf d A3 c3++rf).toArray /\
  bG (fun b=>w.heap.size<=b) w1 a (sf a A1 c1)/\bG (fun b=>w.heap.size<=b) w1 b (sf b A2 c2)/\bG (fun b=>w.heap.size<=b) w1 d (sf d A3 c3)
section
variable {E:cw} {K L:Nat} {w:World} {s:St} {a b d:Nd} {w1 w2:World}
theorem yw.step(h:yw E K L w s a b d w1){s':St}(D:aA E s' w1 w2)(M:E.R<K)(N:K<w.heap.size)(J:L≠E.R):yw E K L w s' a b d w2:=by obtain⟨-,gk,lc,A1,c1,A2,c2,A3,c3,hB,h1,U,O⟩:=h;have I:=(am.of_grown (X:=fun b=>w.heap.size<=b) D.gr).block;exact⟨D.rd,gk.step D.gr,D.gr.cell lc (fun e=>J (by injection e)),A1,c1,A2,c2,A3,c3,hB.grown D.gr,h1.keep I,U.keep I,O.keep I⟩
theorem yw.drew(h:yw E K L w s a b d w1):yw E K L w s a b d w1.drew:=by obtain⟨rd,gk,lc,O,c1,N,c2,M,c3,hB,J,I,D⟩:=h;exact⟨rd.drew,gk.below (gH _ _).drew,lc,O,c1,N,c2,M,c3,hB.drew,J.keep (w:=w1) (w':=w1.drew) (fun _ _ _=>rfl),I.keep (w:=w1) (w':=w1.drew) (fun _ _ _=>rfl),D.keep (w:=w1) (w':=w1.drew) (fun _ _ _=>rfl)⟩
theorem yw.putK(h:yw E K L w s a b d w1)(I:E.R<K)(J:L≠K)(M:K<w.heap.size)(o:Nat)(p q r t:Value):
  aU E (lp w1 K o p q r t) s/\fQ E.R K w (lp w1 K o p q r t)/\(lp w1 K o p q r t).cell? ⟨L,2,none⟩=some (.slice (some ⟨K,0,none⟩) 4 4) /\
   ∀n cs,bG (fun b=>w.heap.size<=b) w1 n cs->bG (fun b=>w.heap.size<=b) (lp w1 K o p q r t) n cs:=by obtain⟨rd,gk,lc,-⟩:=h;have D:=(fP (wk:=w1) (K:=K) (o:=o) (a:=p) (b:=q) (c:=r) (d:=t) (X:=fun b=>b≠K) (fun _ hb=>hb)).block;exact⟨rd.put I o p q r t,gk.put o p q r t,(kY (a:=⟨L,2,none⟩) (D L J (jD _ _ lc))).trans lc,fun n cs h=>h.keep fun b hb hlt=>D b (by have hb:w.heap.size<=b:=hb;omega) hlt⟩
theorem yw.put0(h:yw E K L w s a b d w1)(D:E.R<K)(I:L≠K)(J:K<w.heap.size){n:Nd}{A:Option Addr}{c:Nat}(U:bG (fun b=>w.heap.size<=b) w1 n (sf n A c)):
  yw E K L w s n b d (lp w1 K 0 (.int .i64 n.kind) (.string n.text) (.slice A n.kids.length c) (.int .i64 n.pos)):=by obtain⟨O,N,M,kf⟩:=h.putK D I J 0 (.int .i64 n.kind) (.string n.text) (.slice A n.kids.length c) (.int .i64 n.pos);obtain⟨-,-,-,A1,c1,A2,c2,A3,c3,hB,h1,h2,h3⟩:=h;exact⟨O,N,M,A,c,A2,c2,A3,c3,by simpa using lB (o:=0) (a:=.int .i64 n.kind) (b:=.string n.text) (c:=.slice A n.kids.length c) (d:=.int .i64 n.pos) hB,kf _ _ U,kf _ _ h2,kf _ _ h3⟩
theorem yw.put1(h:yw E K L w s a b d w1)(D:E.R<K)(I:L≠K)(J:K<w.heap.size){n:Nd}{A:Option Addr}{c:Nat}(U:bG (fun b=>w.heap.size<=b) w1 n (sf n A c)):
  yw E K L w s a n d (lp w1 K 4 (.int .i64 n.kind) (.string n.text) (.slice A n.kids.length c) (.int .i64 n.pos)):=by obtain⟨O,N,M,kf⟩:=h.putK D I J 4 (.int .i64 n.kind) (.string n.text) (.slice A n.kids.length c) (.int .i64 n.pos);obtain⟨-,-,-,A1,c1,A2,c2,A3,c3,hB,h1,h2,h3⟩:=h;exact⟨O,N,M,A1,c1,A,c,A3,c3,by simpa using lB (o:=4) (a:=.int .i64 n.kind) (b:=.string n.text) (c:=.slice A n.kids.length c) (d:=.int .i64 n.pos) hB,kf _ _ h1,kf _ _ U,kf _ _ h3⟩
theorem yw.put2(h:yw E K L w s a b d w1)(D:E.R<K)(I:L≠K)(J:K<w.heap.size){n:Nd}{A:Option Addr}{c:Nat}(U:bG (fun b=>w.heap.size<=b) w1 n (sf n A c)):
  yw E K L w s a b n (lp w1 K 8 (.int .i64 n.kind) (.string n.text) (.slice A n.kids.length c) (.int .i64 n.pos)):=by obtain⟨O,N,M,kf⟩:=h.putK D I J 8 (.int .i64 n.kind) (.string n.text) (.slice A n.kids.length c) (.int .i64 n.pos);obtain⟨-,-,-,A1,c1,A2,c2,A3,c3,hB,h1,h2,h3⟩:=h;exact⟨O,N,M,A1,c1,A2,c2,A,c,by simpa using lB (o:=8) (a:=.int .i64 n.kind) (b:=.string n.text) (c:=.slice A n.kids.length c) (d:=.int .i64 n.pos) hB,kf _ _ h1,kf _ _ h2,kf _ _ U⟩
theorem yw.fin{res:bQ (Nd×Nd×Nd)}(h:yw E K L w s a b d w1)(D:res=.ok (a,b,d) s):CF E K w res (.returned (.tuple #[])) w1:=by obtain⟨rd,gk,-,U,c1,O,c2,N,c3,hB,M,J,I⟩:=h;subst D;exact⟨rfl,rd,gk,_,_,_,hB,M,J,I⟩
end
theorem L7(E:cw)(F:fK)(hF:nE E F)(hR:uV E F)(K L:Nat)(s:St)(w:World)(h:aU E w s)(J:E.R<K)(D:K<w.heap.size)(N:L≠K)(ga:L≠E.R)(_hLlt:L<w.heap.size)
  (gy:w.cell? ⟨L,2,none⟩=some (.slice (some ⟨K,0,none⟩) 4 4))(gz:aq w K 24 (rf++rf++rf++rf).toArray)(gv:nA F E.c s≠.out):
  Calls prog 212 #[E.R,L] w (CF E K w (nA F E.c s)):=by
 generalize hres:nA F E.c s=res at *;rw[se]at hres;have gh:=hid hres;have gj:=hid gv;have hc:=h.lt;have g7:=h.most;clear hres gv;have g6:∀w0,Go.RowKit.Hid (ie E 32 (#[.pointer (some ⟨E.R,0,none⟩)] ++ #[]) F.expr w0):=fun w0=>hid (hF.expr.part w0);have g4:∀w0,Go.RowKit.Hid (ie E 227 (#[.pointer (some ⟨E.R,0,none⟩)] ++ #[]) (fD F) w0):=fun w0=>hid ((Ei E F hF hR).part w0);have g2:∀w0,Go.RowKit.Hid (ie E 228 (#[.pointer (some ⟨E.R,0,none⟩)] ++ #[]) (nz F) w0):=fun w0=>hid ((L6 E F hF hR).part w0);have ha:Hid (∀a w,(callFunc 32 a).run prog w=.ok (.enter 32 a) w):=hid (fun a w=>by kernel_rfl);have g9:Hid (∀a w,(callFunc 227 a).run prog w=.ok (.enter 227 a) w):=hid (fun a w=>by kernel_rfl);have g8:Hid (∀a w,(callFunc 228 a).run prog w=.ok (.enter 228 a) w):=hid (fun a w=>by kernel_rfl);have g5:=hid g6;have g3:=hid g4;have g1:=hid g2;clear g6 g4 g2;have HS:Hid (yw E K L w s cc cc cc w):=hid (⟨h,fQ.refl E.R K w,gy,none,0,none,0,none,0,gz,eZ,eZ,eZ⟩);clear gy gz;(go_enter func212,ntmps212);go_wp2_with fail;refine(bY E s ⟨#[59]⟩ _ h).mono ?_;generalize gd:aP E.c s ⟨#[59]⟩=b1;rintro e w2⟨rfl,hb⟩;have gp:=hid (HS.out.step ((aA.refl h).step hb) J D ga);have ge:=hid gd;clear hb HS gd;(go_upto_if 7 with fail);go_cut [] (fun wx=>∃x s1,yw E K L w s1 x cc cc wx/\re F x E.c s1=res)
 case first=>
  cases b1 with
  |true=>go_wp2_with fail;go_meet;exact⟨cc,s,gp.out,by rw[<-gh.out,gG ge.out]⟩
  | false=>
   have gm:=gp.out;have gu:=gm.1;have HE:=hid (show(db (fD F) E.c s).bind (fun x s1=>if x.kind=29 then .out else if x.kind<26 then .ok (cc,x,cc) s1 else re F x E.c s1)=res by rw[<-gh.out,gB (by rw[ge.out];decide)]);clear gh ge gp;go_wp2_with fail;cases hQ:db (fD F) E.c s with
   |out=>exact absurd HE.out.symm (by rw[hQ];exact gj.out)
   |ok x s1=>
    have M:=hid (show(if x.kind=29 then .out else if x.kind<26 then .ok (cc,x,cc) s1 else re F x E.c s1)=res by rw[<-HE.out,hQ];rfl);refine(mv E _ _ _ (fD F) s _ gu g9.out ((g3.out _).out) (by rw[hQ];exact nofun)).mono ?_;rw[hQ];rintro e w3⟨⟨v,rfl,hv⟩,hm⟩;obtain⟨A0,c0,rfl,gn⟩:=hv.toC;clear hQ HE;have gn:=gn.mono (Y:=fun b=>w.heap.size<=b) (fun b hb _=>by have hb:w2.heap.size<=b:=hb;have:=gm.2.1.size;omega);have gl:=gm.step hm J D ga;(go_upto_region 2 with fail);have gx:=(aj w3 (nv x A0 c0)).1;have bT:=(aj w3 (nv x A0 c0)).2;have gq:=(aA.refl gl.1).step gx;have I:=gl.step gq J D ga;have g0:=(gn.keep (am.of_grown (X:=fun b=>w.heap.size<=b) gq.gr).block).keep (w':=(w3.alloc (.cells (nv x A0 c0) 24)).drew) (w:=w3.alloc (.cells (nv x A0 c0) 24)) (fun _ _ _=>rfl);(have hf:w3.heap.size≠K:=by have:=gl.2.1.size;omega);clear gm gl hm gq gn hv gu gx;generalize w3.heap.size=T at *;change Code.wp _ _ _ _ (w3.alloc (.cells (nv x A0 c0) 24));generalize(w3.alloc (.cells (nv x A0 c0) 24))=w4 at *;obtain⟨y0,y1,y2,y3,-,-,-,-⟩:=ab bT;have gk:=I.1;by_cases gb:x.kind=29
    ·have HF:Hid (res=.out):=hid (by rw[<-M.out,gG gb]);exact absurd (HF.out) gj.out
    (have hg:(x.kind==29)=false:=by simp[gb]);obtain⟨lc,A1,c1,A2,c2,A3,c3,kb,-⟩:=I.2.2;have he:K≠L:=N.symm;have O:=hid I.drew;clear I;by_cases gw:x.kind<26
    ·have U:=hid (show(.ok (cc,x,cc) s1:bQ (Nd×Nd×Nd))=res by rw[<-M.out,gB gb,gG gw]);clear gb M;obtain⟨z0,z1,z2,z3,z4,z5,z6,z7⟩:=sW (o:=4) kb rfl rfl rfl rfl;go_wp2_with fail;(go_still_tail 6,(by kernel_rfl));all_goals(go_wp2_with fail);refine jY (vp rfl _ _ _) rfl ?_;exact(O.out.put1 J N D g0).fin U.out.symm
    have U:Hid (re F x E.c s1=res):=hid (by rw[<-M.out,gB gb,gB gw]);clear gb M;obtain⟨z0,z1,z2,z3,z4,z5,z6,z7⟩:=sW (o:=0) kb rfl rfl rfl rfl;go_wp2_with fail;(go_still_tail 6,(by kernel_rfl));all_goals(go_wp2_with fail);go_meet;exact⟨x,s1,O.out.put0 J N D g0,U.out⟩
 case rest=>
  rename World=>wc;obtain⟨x,s1,hS,hE⟩:=hcut;have rd:=hS.1;have HE:=hid hE;clear gp ge gh h;have HS:=hid hS;clear hS hE;go_wp2_with fail;cases hN:aP E.c s1 ⟨#[59]⟩with
  |false=>exact absurd (show res=.out by rw[<-HE.out,re,bV];simp[hN]) gj.out
  | true=>
   refine(de E s1 _ _ rd hN).mono ?_;rintro e w3⟨rfl,hm⟩;have gi:=hid (HS.out.step hm J D ga);have gg:=hm.rd;have M:=hid (show(if aP E.c (adv s1) ⟨#[59]⟩then .ok cc (adv s1)else db F.expr E.c (adv s1)).bind (fun b s2=>pd F x b E.c s2)=res by rw[<-HE.out,re,bV];simp only[hN,kG,bQ.bind_ok]);clear HE hN hm HS rd;go_wp2_with fail;refine(bY E (adv s1) ⟨#[59]⟩ _ gg).mono ?_;generalize gd:aP E.c (adv s1) ⟨#[59]⟩=b2;rintro e w4⟨rfl,hb⟩;have O:=hid (gi.out.step ((aA.refl gg).step hb) J D ga);have ge:=hid gd;clear hb gi gd gg;(go_upto_if 38 with fail);go_cut [] (fun wx=>∃b s2,yw E K L w s2 x b cc wx/\pd F x b E.c s2=res)
   case first=>
    cases b2 with
    |true=>go_wp2_with fail;go_meet;exact⟨cc,adv s1,O.out,by rw[<-M.out,gG ge.out];rfl⟩
    | false=>
     have I:=O.out;have U:=hid (show(db F.expr E.c (adv s1)).bind (fun b s2=>pd F x b E.c s2)=res by rw[<-M.out,gB (by rw[ge.out];decide)]);clear M ge O;have gk:=I.1;obtain⟨lc,A1,c1,A2,c2,A3,c3,kb,-⟩:=I.2.2;cases hQ:db F.expr E.c (adv s1)with
     |out=>exact absurd U.out.symm (by rw[hQ];exact gj.out)
     | ok n t=>
      have gt:Hid (pd F x n E.c t=res):=hid (by rw[<-U.out,hQ];rfl);have HC:=hid (fun W(hr:aU E W (adv s1))=>mv E _ _ _ F.expr (adv s1) W hr ha.out ((g5.out _).out) (by rw[hQ];exact nofun));rw[hQ]at HC;have O:=hid I;clear U I;go_wp2_with fail;go_region_held3 (fun w'=>w'.cell? ⟨L,2,none⟩=some (.slice (some ⟨K,0,none⟩) 4 4))
       (first|with_reducible exact zL|exact lc|(rw[gJ _ _ _ _ (by exact N.symm),gJ _ _ _ _ (by exact N.symm),gJ _ _ _ _ (by exact N.symm),gJ _ _ _ _ (by exact N.symm)];exact zL))
       ((go_at_call 210;refine(HC.out _ gk.drew).mono ?_;rintro e w5⟨⟨v,rfl,hv⟩,hm⟩;obtain⟨A,c,rfl,hC⟩:=hv.toC;have zL:=hm.gr.cell (show w4.drew.cell? ⟨L,2,none⟩=_ from lc) (fun e=>ga (by injection e));have zK:=kb.drew.grown hm.gr;obtain⟨z0,z1,z2,z3,z4,z5,z6,z7⟩:=sW (o:=4) zK rfl rfl rfl rfl))
      have gs:=(O.out.drew.step hm J D ga).put1 J N D (hC.mono (Y:=fun b=>w.heap.size<=b) fun b hb _=>by have hb:w4.heap.size<=b:=hb;have:=O.out.2.1.size;omega);all_goals(go_wp2_with fail);go_meet;exact⟨n,t,gs,gt.out⟩
   case rest=>
    rename World=>wc;obtain⟨b,s2,hS,hE⟩:=hcut;have rd:=hS.1;have HE:=hid hE;have HS:=hid hS;clear hS hE O ge M;go_wp2_with fail;cases hN:aP E.c s2 ⟨#[59]⟩with
    |false=>exact absurd (show res=.out by rw[<-HE.out,pd,bV];simp[hN]) gj.out
    | true=>
     refine(de E s2 _ _ rd hN).mono ?_;rintro e w3⟨rfl,hm⟩;have gi:=hid (HS.out.step hm J D ga);have gg:=hm.rd;have M:=hid (show(if aP E.c (adv s2) ⟨#[123]⟩then .ok cc (adv s2)else db (nz F) E.c (adv s2)).bind (fun d s4=>.ok (x,b,d) s4)=res by rw[<-HE.out,pd,bV];simp only[hN,kG,bQ.bind_ok]);clear HE hN hm HS rd;go_wp2_with fail;refine(bY E (adv s2) ⟨#[123]⟩ _ gg).mono ?_;cases gd:aP E.c (adv s2) ⟨#[123]⟩with
     |true=>rintro e w4⟨rfl,hb⟩;have I:=gi.out.step ((aA.refl gg).step hb) J D ga;have U:=hid (show(.ok (x,b,cc) (adv s2):bQ (Nd×Nd×Nd))=res by rw[<-M.out,gG gd];rfl);go_wp2_with fail;refine jY (vp rfl _ _ _) rfl ?_;exact I.fin U.out.symm
     | false=>
      rintro e w4⟨rfl,hb⟩;have I:=gi.out.step ((aA.refl gg).step hb) J D ga;have U:=hid (show(db (nz F) E.c (adv s2)).bind (fun d s4=>.ok (x,b,d) s4)=res by rw[<-M.out,gB (by rw[gd];decide)]);clear M gd gi hb;have gk:=I.1;obtain⟨lc,A1,c1,A2,c2,A3,c3,kb,-⟩:=I.2.2;cases hQ:db (nz F) E.c (adv s2)with
      |out=>exact absurd U.out.symm (by rw[hQ];exact gj.out)
      | ok n t=>
       have gt:=hid (show(.ok (x,b,n) t:bQ (Nd×Nd×Nd))=res by rw[<-U.out,hQ];rfl);have HC:=hid (fun W(hr:aU E W (adv s2))=>mv E _ _ _ (nz F) (adv s2) W hr g8.out ((g1.out _).out) (by rw[hQ];exact nofun));rw[hQ]at HC;have O:=hid I;clear U I;go_wp2_with fail;go_region_held3 (fun w'=>w'.cell? ⟨L,2,none⟩=some (.slice (some ⟨K,0,none⟩) 4 4))
        (first|with_reducible exact zL|exact lc|(rw[gJ _ _ _ _ (by exact N.symm),gJ _ _ _ _ (by exact N.symm),gJ _ _ _ _ (by exact N.symm),gJ _ _ _ _ (by exact N.symm)];exact zL))
        ((go_at_call 210;refine(HC.out _ gk.drew).mono ?_;rintro e w5⟨⟨v,rfl,hv⟩,hm⟩;obtain⟨A,c,rfl,hC⟩:=hv.toC;have zL:=hm.gr.cell (show w4.drew.cell? ⟨L,2,none⟩=_ from lc) (fun e=>ga (by injection e));have zK:=kb.drew.grown hm.gr;obtain⟨z0,z1,z2,z3,z4,z5,z6,z7⟩:=sW (o:=8) zK rfl rfl rfl rfl))
       have gs:=(O.out.drew.step hm J D ga).put2 J N D (hC.mono (Y:=fun b=>w.heap.size<=b) fun b hb _=>by have hb:w4.heap.size<=b:=hb;have:=O.out.2.1.size;omega);all_goals(go_wp2_with fail);refine jY (vp rfl _ _ _) rfl ?_;exact gs.fin gt.out.symm
end
end Go.Proofs.YteialcjaiocjdaaGreatDoor
