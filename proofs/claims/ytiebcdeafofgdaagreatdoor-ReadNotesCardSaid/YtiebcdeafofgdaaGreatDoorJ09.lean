/-
  Parts of the proof: Runion Rinter Rcons Rparams. By an AI agent.
-/
import Derived.Test.YtiebcdeafofgdaaGreatDoorJ08
import Derived.Deep.RegionLaw
set_option maxRecDepth 100000
set_option maxHeartbeats 8000000
namespace Go.Proofs.YtiebcdeafofgdaaGreatDoor
section
open Go.RowKit Go.Lib Go.Proofs
attribute [local go_sem ↓] Go.wp_at_zero Go.wp_at_succ
attribute [local go_sem] aG aH aI aW aX aY aZ
theorem ov (E:bN) (F:eB) (hF:mA E F) (p:Int) (w:World) (s:St) (h:aD E w s) (gs:dK F p E.c s≠.out) :
  Calls Tryz.prog 178 #[.pointer (some ⟨E.R,0,none⟩),.int .i64 p] w (iX E w (dK F p E.c s)):=by
 generalize hres:dK F p E.c s=res at *;have I:=hid hres;have gp:=hid gs;have gt:=h.lt;have O:=(ar.refl h).alloc (.cells aV 24);clear hres gs;(go_enter Tryz.func178,Tryz.ntmps178);(go_wp2_with fail);cases D:ij F E.c s with
 | out=>exact absurd I.out.symm (by rw [dK,D];exact gp.out)
 | fail q=>refine (px E F hF _ s O.rd (by rw [D];exact nofun)).mono ?_;rw [D];rintro e w1 ⟨rfl,hf⟩;unfold ag;exact ⟨rfl,af (by rw [←I.out,dK,D];rfl) O.gr hf⟩
 | ok n s1=>
  have HE:=hid (show dM F p F.g [n] E.c s1=res by rw [←I.out,dK,D];rfl);refine (px E F hF _ s O.rd (by rw [D];exact nofun)).mono ?_;rw [D];rintro e w1 ⟨⟨v,rfl,hv⟩,gh⟩;obtain ⟨A,cp,rfl,hC⟩:=hv.toC;have gn:=(aj.new w 24 aV).grown gh.gr (fun e=>by injection e with e;omega);have gy:=O.trans gh;have ha:=gn.lt;clear D I gh O;(go_wp2_with fail);refine (aC _ _ _ _ _ ⟨_,_,_,rfl⟩).mono ?_;rintro e w2 ⟨rfl,J⟩;have g2:=(aj.new w1 24 (nv n A cp)).below J (by simp);have g5:=(gn.alloc _).below J (by simp;omega);have gx:=(gy.alloc _).step J;(have ho:w1.heap.size+1≤w2.heap.size:=by have:=J.size;simp at this;omega);have g7:eY (w.heap.size+1) (fun b=>b=w2.heap.size) w2 (.slice (some ⟨w1.heap.size,0,none⟩) 1 1) [n]:=
   eY.one (S:=w.heap.size+1) g2 (by omega) rfl (hC.mono fun b hb _=>by simpa using hb) (Nat.le_refl _)
    (fun b _ hlt=>(J.block b (by simp;omega)).trans (Below.heap_alloc w1 _ b hlt)) (fun b _ hb=>by omega) (by omega)
  clear J g2 gn gy hC hv;(go_wp2_with fail);have g0:=aj.new w2 24 #[.int .i64 14,.string (⟨#[]⟩:BA),.slice (some ⟨w1.heap.size,0,none⟩) 1 1,.int .i64 p];have g4:=g5.alloc (.cells #[.int .i64 14,.string (⟨#[]⟩:BA),.slice (some ⟨w1.heap.size,0,none⟩) 1 1,.int .i64 p] 24);have gw:=gx.alloc (.cells #[.int .i64 14,.string (⟨#[]⟩:BA),.slice (some ⟨w1.heap.size,0,none⟩) 1 1,.int .i64 p] 24);have g6:=g7.kept (((ae.refl _ w2).alloc (.cells #[.int .i64 14,.string (⟨#[]⟩:BA),.slice (some ⟨w1.heap.size,0,none⟩) 1 1,.int .i64 p] 24)));generalize hL:w2.heap.size=L at *;(have hm:w.heap.size+1<L:=by omega);generalize w2.alloc (.cells #[.int .i64 14,.string (⟨#[]⟩:BA),.slice (some ⟨w1.heap.size,0,none⟩) 1 1,.int .i64 p] 24)=w3 at *;clear g7 g5 gx hL;go_loopg [12] F.g (fun g _ wr=>∃ (acc:List Nd) (s':St) (u:Value),aj wr L 24 #[.int .i64 14,.string (⟨#[]⟩:BA),u,.int .i64 p]∧eY (w.heap.size+1) (fun b=>b=L) wr u acc∧aj wr w.heap.size 24 aV∧acc.length+g≤1000001∧dM F p g acc E.c s'=res∧ar E s' w wr)
  case atStart=>exact ⟨[n],s1,_,g0,g6,g4,by have:=hF.g;simp;omega,HE.out,gw⟩
  case round=>
   clear g0 g6 g4 gw HE;obtain ⟨acc,y,u,hL,HO,hG,hn,hr,hM⟩:=hrel;have HR:=hid hr;clear hr;cases gk with
   | zero=>exact absurd HR.out.symm (by rw [dM];exact gp.out)
   | succ g1=>
    cases hA:aE E.c y (⟨#[124]⟩:BA) with
    | false=>have HF:=hid (show res=.ok (.mk 14 (⟨#[]⟩:BA) acc p) y by rw [←HR.out,dM];simp only [hA,Bool.false_eq_true,if_false]);clear HR;(go_wp2_with fail);refine (bh E y _ _ hM.rd hA).mono ?_;rintro e w4 ⟨rfl,z⟩;have U:=hL.below z.bel hL.lt;have ge:=hG.below z.bel hG.lt;have M:=HO.kept (ae.of_below z.bel (fun b _ hlt=>hlt));obtain ⟨A4,c4,gg,_⟩:=M.form;subst gg;obtain ⟨x0,x1,x2,x3,_,_,_,_⟩:=ac U;obtain ⟨d0,d1,d2,d3,e0,e1,e2,e3⟩:=ac ge;clear hA;(go_wp2_with fail);refine au HF.out (av.of_slice M.values 14 (⟨#[]⟩:BA) p) (hM.trans z.moved) ge (Nat.le_refl _) gt ?_ rfl (by rfl) rfl;rintro b ⟨hb,_⟩;constructor <;> omega
    | true=>
     have HE:=hid (show (ij F E.c (adv y)).bind (fun t s1=>dM F p g1 (acc++[t]) E.c s1)=res by rw [←HR.out,dM];simp only [hA,if_true]);clear HR;(go_wp2_with fail);refine (aQ E y _ _ hM.rd hA).mono ?_;rintro e w4 ⟨rfl,gb⟩;have U:=hL.grown gb.gr (fun e=>by injection e with e;omega);have ge:=hG.grown gb.gr (fun e=>by injection e with e;omega);have M:=HO.grown gb.gr (by omega);have gd:=hM.trans gb;clear hA hL hG HO hM;obtain ⟨A4,c4,gg,_⟩:=M.form;subst gg;obtain ⟨x0,x1,x2,x3,y0,y1,y2,y3⟩:=ac U;have gj:=U.lt;cases D:ij F E.c (adv y) with
     | out=>exact absurd HE.out.symm (by rw [D];exact gp.out)
     | fail q=>have HF:=hid (show res=.fail q by rw [←HE.out,D];rfl);(go_wp2_with fail);let SS:World→Prop:=fun w'=>w'.cell? ⟨L,2,none⟩=some (.slice A4 acc.length c4);have hj:SS w4.drew:=x2;(refine wp_region_held_drew (S:=SS) (by kernel_rfl) hj ?_;intro gl;refine b8 0 rfl (by kernel_rfl) (fun _ _ _ h=>h) (by rfl) (by intro w hSw;(try dsimp only [SS] at hSw);go_simp;try (with_reducible rfl)) gl ?_;refine b8 1 rfl (by kernel_rfl) (fun _ _ _ h=>h) (by rfl) (by intro w hSw;(try dsimp only [SS] at hSw);go_simp;try (with_reducible rfl)) gl ?_;refine b8 2 rfl (by kernel_rfl) (fun _ _ _ h=>h) (by rfl) (by intro w hSw;(try dsimp only [SS] at hSw);go_simp;try (with_reducible rfl)) gl ?_;refine oP 3 (by kernel_rfl) rfl (fun K hK=>?_);go_simp);refine (px E F hF _ (adv y) gd.drew.rd (by rw [D];exact nofun)).mono ?_;rw [D];rintro e w7 ⟨rfl,he⟩;unfold ag;exact ⟨rfl,af HF.out gd.drew.gr he⟩
     | ok n2 s3=>
      have hl:=hid (show dM F p g1 (acc++[n2]) E.c s3=res by rw [←HE.out,D];rfl);have HC:=hid (fun W (hr:aD E W (adv y))=>px E F hF W (adv y) hr (by rw [D];exact nofun));rw [D] at HC;clear HE D;(go_wp2_with fail);(have gu:acc.length≤1000000:=by omega);(have gv:E.R<w.heap.size+1:=by omega);(have gq:w.heap.size+1≤w4.heap.size:=by omega);go_region_law (first
       | (refine eD (by rfl) (.tmp 14) (.tmp 17) (by rfl) E s3 (w.heap.size+1) w4.heap.size (fun b=>b=L) w w5 (.slice A4 acc.length c4) acc n2 A5 c5 (by rfl) (by rfl) hk hh (Nat.le_succ _) gv gq g9 (fun b hb=>by rw [hb];exact gj) (fun g hg=>(M.lt g hg).2) gu hi ?_;intro g c w6 ga;have gz:aj w6 L 24 #[.int .i64 14,.string (⟨#[]⟩:BA),.slice A4 acc.length c4,.int .i64 p]:=(ga.old L gi (.inl rfl)).trans gm;obtain ⟨v0,v1,v2,v3,f0,f1,f2,f3⟩:=ac gz)
       | (go_simp;(go_at_call 216);refine (HC.out _ gd.drew.rd).mono ?_;rintro e w5 ⟨⟨v,rfl,g8⟩,N⟩;obtain ⟨A5,c5,rfl,hi⟩:=g8.toC;have gm:=U.drew.grown N.gr (fun e=>by injection e with e;omega);have g3:=ge.drew.grown N.gr (fun e=>by injection e with e;omega);have hk:=(M.kept ((ae.refl _ _).drew)).grown N.gr gv;have hh:=gd.drew.trans N;have g9:w4.heap.size≤w5.heap.size:=N.gr.size;have gi:=gm.lt;obtain ⟨z0,z1,z2,z3,_,_,_,_⟩:=ac gm))
      (all_goals go_wp2_with fail);all_goals
       go_roundg g1
       case measure=>omega
       case rel=>
        refine ⟨acc++[n2],s3,_,by simpa using gz.set_ 2 (.slice (some ⟨g,0,none⟩) (acc.length+1) c),?_,?_,by rw [List.length_append];simp;omega,hl.out,?_⟩
        ·exact ga.own.kept ((ae.refl _ _).setCell (fun hX=>hX.2 rfl) _)
        ·exact aj.far (show aj w6 w.heap.size 24 aV from (ga.old w.heap.size (by have:=g3.lt;omega) (.inr (by omega))).trans g3) (p:=⟨L,2,none⟩) (by show w.heap.size≠L;omega) _
        ·exact ga.mov.own (p:=⟨L,2,none⟩) (by show w.heap.size≤L;omega) (by show E.R<L;omega) _
def Ma (n:Nd) (A:Option Addr) (cp:Nat):Array Value:=(nv n A cp)
theorem rv (E:bN) (F:eB) (hF:mA E F) (p:Int) (w:World) (s:St) (h:aD E w s) (ge:eC F p E.c s≠.out) :
  Calls Tryz.prog 137 #[.pointer (some ⟨E.R,0,none⟩),.int .i64 p] w (iX E w (eC F p E.c s)):=by
 generalize hres:eC F p E.c s=res at *;have M:=hid hres;have g0:=hid ge;have gg:=h.lt;have J:=(ar.refl h).alloc (.cells aV 24);clear hres ge;(go_enter Tryz.func137,Tryz.ntmps137);(go_wp2_with fail);cases hA:aE E.c s (⟨#[123]⟩:BA) with
 | false=>refine (cS E s _ _ J.rd hA).mono ?_;rintro e w1 ⟨rfl,gu⟩;unfold ag;exact ⟨rfl,af (by rw [←M.out,eC,need];simp [hA]) J.gr (ai _ gu)⟩
 | true=>
  have HE:=hid (show (dK F p E.c (adv s)).bind (fun n s2=>(need (⟨#[125]⟩:BA) E.c (dA E.c s2)).bind fun _ s3=>.ok n s3)=res by rw [←M.out,eC,need];simp only [hA,if_true,cZ.bind_ok]);refine (ch E s _ _ J.rd hA).mono ?_;rintro e w1 ⟨rfl,z⟩;have gl:=(aj.new w 24 aV).grown z.gr (fun e=>by injection e with e;omega);have I:=J.trans z;have gq:=gl.lt;clear M hA J z;(go_wp2_with fail);cases y:dK F p E.c (adv s) with
  | out=>exact absurd HE.out.symm (by rw [y];exact g0.out)
  | fail q=>refine (ov E F hF p w1 (adv s) I.rd (by rw [y];exact nofun)).mono ?_;rw [y];rintro e w2 ⟨rfl,gs⟩;unfold ag;exact ⟨rfl,af (by rw [←HE.out,y];rfl) I.gr gs⟩
  | ok n s2=>
   have gb:=hid (show (need (⟨#[125]⟩:BA) E.c (dA E.c s2)).bind (fun _ s3=>.ok n s3)=res by rw [←HE.out,y];rfl);refine (ov E F hF p w1 (adv s) I.rd (by rw [y];exact nofun)).mono ?_;rw [y];rintro e w2 ⟨⟨v,rfl,hv⟩,O⟩;obtain ⟨A,cp,rfl,hC⟩:=hv.toC;have gk:=gl.grown O.gr (fun e=>by injection e with e;omega);have gw:=I.trans O;have g2:=O.gr.size;have gp:=gk.lt;clear HE y I O;(go_wp2_with fail);have gh:=aj.new w2 24 (Ma n A cp);have gj:=gk.alloc (.cells (Ma n A cp) 24);have ga:=gw.alloc (.cells (Ma n A cp) 24);have gd:=hv.kept ((ae.refl _ w2).alloc (.cells (Ma n A cp) 24));refine (fL E s2 _ ga.rd).mono ?_;rintro e w4 ⟨rfl,D⟩;have gy:=gh.grown D.gr (fun e=>by injection e with e;omega);have gz:=gj.grown D.gr (fun e=>by injection e with e;omega);have gn:=gd.kept (ae.of_grown D.gr (fun g e hX=>by injection e with e;subst e;omega));have U:=ga.trans D;(have g1:w2.heap.size+1≤w4.heap.size:=by have:=D.gr.size;simp at this;omega);clear gh gj gd ga D hv hC;(go_wp2_with fail);cases hD:aE E.c (dA E.c s2) (⟨#[125]⟩:BA) with
   | false=>refine (cS E (dA E.c s2) _ _ U.rd hD).mono ?_;rintro e w5 ⟨rfl,gt⟩;unfold ag;exact ⟨rfl,af (by rw [←gb.out,need];simp [hD]) U.gr (ai _ gt)⟩
   | true=>have HF:=hid (show res=.ok n (adv (dA E.c s2)) by rw [←gb.out,need];simp [hD]);refine (ch E (dA E.c s2) _ _ U.rd hD).mono ?_;rintro e w5 ⟨rfl,N⟩;have gx:=gy.grown N.gr (fun e=>by injection e with e;omega);have gi:=gz.grown N.gr (fun e=>by injection e with e;omega);have gm:=gn.kept (ae.of_grown N.gr (fun g e hX=>by injection e with e;subst e;omega));have gv:=U.trans N;obtain ⟨x0,x1,x2,x3,_,_,_,_⟩:=ac gx;obtain ⟨d0,d1,d2,d3,e0,e1,e2,e3⟩:=ac gi;clear hD gb;(go_wp2_with fail);refine au HF.out gm gv gi (Nat.le_refl _) gg ?_ rfl (by rfl) rfl;intro b hb;constructor <;> omega
theorem sM (F:eB) (p:Int) (c:Cx):∀ (g:Nat) (acc:List Nd) (s:St) (n:Nd) (s':St),1≤acc.length→(∀ t∈acc,t.kids.length=1)→dM F p g acc c s=.ok n s'→1≤n.kids.length∧∀ t∈n.kids,t.kids.length=1
 | 0,acc,s,n,s',_,_,h=>by simp [dM] at h
 | g+1,acc,s,n,s',N,J,h=>by
  rw [dM] at h;dsimp only at h;split at h
  ·cases D:ij F c (adv s) with
   | out=>rw [D] at h;simp at h
   | fail q=>rw [D] at h;simp at h
   | ok t s1=>
    rw [D] at h;simp only [cZ.bind_ok] at h;have M:t.kids.length=1:=by
     unfold ij at D;split at D
     ·cases hT:F.typ c (adv (adv s)) with
      | out=>rw [hT] at D;simp at D
      | fail q=>rw [hT] at D;simp at D
      | ok k s2=>rw [hT] at D;simp at D;rw [←D.1];rfl
     ·cases hT:F.typ c (adv s) with
      | out=>rw [hT] at D;simp at D
      | fail q=>rw [hT] at D;simp at D
      | ok k s2=>rw [hT] at D;simp at D;rw [←D.1];rfl
    exact sM F p c g (acc++[t]) s1 n s' (by simp) (by
     intro u I;rcases List.mem_append.1 I with I | I
     ·exact J u I
     ·rw [List.mem_singleton.1 I];exact M) h
  ·simp only [cZ.ok.injEq] at h;rw [←h.1];exact ⟨N,J⟩
theorem yR (F:eB) (p:Int) (c:Cx) (s:St) (n:Nd) (s':St) (h:dK F p c s=.ok n s'):1≤n.kids.length∧∀ t∈n.kids,t.kids.length=1:=by
 unfold dK at h;cases D:ij F c s with
 | out=>rw [D] at h;simp at h
 | fail q=>rw [D] at h;simp at h
 | ok t s1=>
  rw [D] at h;simp only [cZ.bind_ok] at h;refine sM F p c F.g [t] s1 n s' (by simp) (fun u hu=>?_) h;rw [List.mem_singleton.1 hu];unfold ij at D;split at D
  ·cases hT:F.typ c (adv s) with
   | out=>rw [hT] at D;simp at D
   | fail q=>rw [hT] at D;simp at D
   | ok k s2=>rw [hT] at D;simp at D;rw [←D.1];rfl
  ·cases hT:F.typ c s with
   | out=>rw [hT] at D;simp at D
   | fail q=>rw [hT] at D;simp at D
   | ok k s2=>rw [hT] at D;simp at D;rw [←D.1];rfl
theorem ow {E:bN} {w wk:World} {res:cZ Nd} {n:Nd} {s:St} {X:Nat→Prop} {a0 a1 a2 a3 z0 z1 z2 z3:Value} {g q:Nat} {fn:Func} {a:Act} (D o2:Obj) (O:res=.ok n s)
  (M:av X wk (.agg #[a0,a1,a2,a3]) n) (U:ar E s w wk) (hb:aj wk g 24 #[z0,z1,z2,z3]) (h:w.heap.size≤g) (y:E.R<g) (J:∀ b,X b→w.heap.size≤b∧b≠g)
  (I:fn.results = #[.cell q 24]) (N:a.tmps.getD q undef=.pointer (some ⟨g,0,none⟩)) (hd:a.defers=[]) :
  bodyPost Tryz.prog fn (iX E w res) .ret a (((bu wk g a0 a1 a2 a3).alloc D).alloc o2):=by refine bodyPost_ret (dN I _ N (((br hb a0 a1 a2 a3).alloc D).alloc o2)) hd ?_;rw [O];exact ⟨⟨_,rfl,(M.kept (((bK (fun b hb=>(J b hb).2) _ _ _ _).alloc D).alloc o2)).mono fun b hb _=>(J b hb).1⟩,((bW U h y _ _ _ _).alloc D).alloc o2⟩
theorem cR.kid {X:Nat→Prop} {w:World} {A0:Option Addr} {n c:Nat} {l:List Nd} (h:cR X w (.slice A0 n c) l) (i:Nat) (U:i<l.length) :
  ∃ b off A cp,A0=some ⟨b,off,none⟩∧X b∧b<w.heap.size∧w.cell? ⟨b,off+i * 4,none⟩=some (.int .i64 l[i].kind)∧w.cell? ⟨b,off+i * 4+1,none⟩=some (.string l[i].text) ∧
    w.cell? ⟨b,off+i * 4+2,none⟩=some (.slice A l[i].kids.length cp)∧w.cell? ⟨b,off+i * 4+3,none⟩=some (.int .i64 l[i].pos) ∧
    av X w (.agg #[.int .i64 l[i].kind,.string l[i].text,.slice A l[i].kids.length cp,.int .i64 l[i].pos]) l[i]:=by obtain ⟨A1,c1,xs,e,_,M,N⟩:=h;injection e with e1 e2 e3;subst e1 e2 e3;obtain ⟨b,off,eA,q,hc⟩:=M.2 (by omega);obtain ⟨ys,y,I⟩:=N.get i U;obtain ⟨A,cp,zs,e,h1,h2,z⟩:=y.toV;subst e;have g:=fun j (O:j<4) v (J:[Value.int .i64 l[i].kind,.string l[i].text,.slice A l[i].kids.length cp,.int .i64 l[i].pos][j]? = some v)=>hc (i * 4+j) v (by rw [I j O];exact J);have D:=g 0 (by omega) _ rfl;exact ⟨b,off,A,cp,eA,q,World.block_lt_of_cell? w _ D,D,by simpa [Nat.add_assoc] using g 1 (by omega) _ rfl,by simpa [Nat.add_assoc] using g 2 (by omega) _ rfl,by simpa [Nat.add_assoc] using g 3 (by omega) _ rfl,A,cp,zs,rfl,h1,h2,z⟩
theorem av.kidsV {X:Nat→Prop} {w:World} {k t a:Value} {A:Option Addr} {m c:Nat} {n:Nd} (h:av X w (.agg #[k,t,.slice A m c,a]) n):cR X w (.slice A m c) n.kids:=by obtain ⟨M,c1,xs,e,J,I,D⟩:=h;injection e with e;injection e with e;simp only [List.cons.injEq,and_true] at e;obtain ⟨_,_,e,_⟩:=e;exact ⟨M,c1,xs,e,J,I,D⟩
theorem nG (E:bN) (F:eB) (hF:mA E F):dC E (cP F) 129:=by
 intro w s h hno;generalize I:cP F E.c s=res at *;have U:=hid I;have gk:=hid hno;have J:=h.lt;clear I hno;(go_enter Tryz.func129,Tryz.ntmps129);(go_wp2_with fail);refine (bw E s _ (h.alloc _)).mono ?_;unfold eO;rintro e w1 ⟨rfl,D⟩;have y:=((cw.refl h).alloc _).step D;have gb:=(aj.new w 24 aV).below D (by simp);have gq:=gb.lt;clear D;(go_wp2_with fail);cases hA:aE E.c s (⟨#[105,110,116,101,114,102,97,99,101]⟩:BA) with
 | true=>
  have HE:=hid (show eC F (an E.c s) E.c (adv s)=res by rw [←U.out,cP,if_pos hA]);refine (aQ E s _ w1 y.rd hA).mono ?_;rintro e w2 ⟨rfl,gh⟩;have gj:=gb.grown gh.gr (fun e=>by injection e with e;omega);have M:=y.moved.trans gh;have gx:=gh.gr.size;clear U hA gb y;(go_wp2_with fail);refine (rv E F hF _ w2 (adv s) gh.rd (by rw [show eC F (am E.c s.at_).pos E.c (adv s)=res from HE.out];exact gk.out)).mono ?_;rw [show eC F (am E.c s.at_).pos E.c (adv s)=res from HE.out];cases I:res with
  | out=>exact absurd I gk.out
  | fail p=>rintro e w5 ⟨rfl,gz⟩;unfold ag;exact ⟨rfl,af rfl M.gr gz⟩
  | ok n s2=>rintro e w5 ⟨⟨v,rfl,hv⟩,gs⟩;obtain ⟨A,cp,rfl,hC⟩:=hv.toC;have gv:=gj.grown gs.gr (fun e=>by injection e with e;omega);obtain ⟨d0,d1,d2,d3,e0,e1,e2,e3⟩:=ac gv;have HF:=hid I;clear HE I gk;(go_wp2_with fail);refine au HF.out hv (M.trans gs) gv (Nat.le_refl _) J ?_ rfl (by rfl) rfl;intro b hb;constructor <;> omega
 | false=>
  have HE:=hid (show (dK F (an E.c s) E.c s).bind (fun n s1=>.ok ((fK n).getD n) s1)=res by rw [←U.out,cP];simp only [hA,Bool.false_eq_true,if_false]);refine (bh E s _ w1 y.rd hA).mono ?_;rintro e w2 ⟨rfl,ge⟩;have gj:=gb.below ge.bel gq;have M:=y.moved.trans ge.moved;have gx:=ge.bel.size;clear U hA gb y ge;(go_wp2_with fail);cases hP:dK F (an E.c s) E.c s with
  | out=>exact absurd HE.out.symm (by rw [hP];exact gk.out)
  | fail q=>refine (ov E F hF _ w2 s M.rd (by rw [show dK F (am E.c s.at_).pos E.c s=_ from hP];exact nofun)).mono ?_;rw [show dK F (am E.c s.at_).pos E.c s=_ from hP];rintro e w3 ⟨rfl,g0⟩;unfold ag;exact ⟨rfl,af (by rw [←HE.out,hP];rfl) M.gr g0⟩
  | ok n s1=>
   have HF:=hid (show res=.ok ((fK n).getD n) s1 by rw [←HE.out,hP];rfl);obtain ⟨gu,gt⟩:=yR F _ _ _ _ _ hP;refine (ov E F hF _ w2 s M.rd (by rw [show dK F (am E.c s.at_).pos E.c s=_ from hP];exact nofun)).mono ?_;rw [show dK F (am E.c s.at_).pos E.c s=_ from hP];rintro e w3 ⟨⟨v,rfl,hv⟩,gg⟩;obtain ⟨A,cp,rfl,hC⟩:=hv.toC;have ga:=gj.grown gg.gr (fun e=>by injection e with e;omega);have gi:=M.trans gg;have g6:=gg.gr.size;have gy:=ga.lt;clear hP HE gg gj M;obtain ⟨nk,nt,nl,np⟩:=n;rcases nl with _ | ⟨tn,rest⟩
   ·simp at gu
   have gp:=gt tn (by simp);obtain ⟨tk,tt,tl,tp⟩:=tn;rcases tl with _ | ⟨kn,gw⟩
   ·simp at gp
   (obtain rfl:gw=[]:=by simpa using gp);clear gu gt gp;have HV:=hid hv;obtain ⟨b,off,A1,c1,eA,g9,g8,k0,k1,k2,k3,gn⟩:=hv.kidsV.kid 0 (by simp);obtain ⟨b',off',A2,c2,eA',g5,g4,j0,j1,j2,j3,gm⟩:=gn.kidsV.kid 0 (by simp);simp only [Nd.kids_mk,Nd.kind_mk,Nd.text_mk,Nd.pos_mk,List.getElem_cons_zero,Nat.zero_mul,Nat.add_zero] at eA eA' k0 k1 k2 k3 j0 j1 j2 j3 gm gn;subst eA eA';have g2:=hid gm;have gl:=hid (show (fK (.mk nk nt (.mk tk tt [kn] tp::rest) np)).getD (.mk nk nt (.mk tk tt [kn] tp::rest) np)=if rest.length+1=1∧tt=(⟨#[]⟩:BA)∧kn.kind=10 then kn else .mk nk nt (.mk tk tt [kn] tp::rest) np by
    unfold fK;cases rest with
    | nil=>
     simp only [Nd.kids_mk,Nd.text_mk,List.length_nil,Nat.zero_add,true_and];by_cases hc:tt=(⟨#[]⟩:BA)∧kn.kind=10
     ·simp only [hc,and_self,if_true,Option.getD_some]
     ·simp only [hc,if_false,Option.getD_none]
    | cons x r=>simp)
   clear hv gn gm hC;simp only [Nd.kids_mk,Nd.kind_mk,Nd.text_mk,Nd.pos_mk,List.length_cons,List.length_nil,Nat.zero_add] at k2 ⊢;(have g3:b≠w3.heap.size:=by omega);(have g1:b'≠w3.heap.size:=by omega);(have ha:w.heap.size≠w3.heap.size:=by omega);(have g7:(0:Int)<((rest.length+1:Nat):Int):=by omega);obtain ⟨d0,d1,d2,d3,e0,e1,e2,e3⟩:=ac ga;generalize hmm:rest.length+1=m at *;by_cases D:m=1
   ·by_cases N:tt=(⟨#[]⟩:BA)
    ·(have t2:tt.toList.isEmpty=true:=by rw [aM];simp [N]);by_cases z:kn.kind=10
     ·have O:=hid (show res=.ok kn s1 by rw [HF.out,gl.out,if_pos ⟨D,N,z⟩]);(have t3:(kn.kind==10)=true:=by simp [z]);(have t1:((m:Int)==1)=true:=by rw [D];rfl);clear D N z hmm;(go_wp2_with fail);refine ow _ _ O.out g2.out gi ga (Nat.le_refl _) J ?_ rfl (by rfl) rfl;intro b hb;constructor <;> omega
     ·have O:=hid (show res=.ok (.mk nk nt (.mk tk tt [kn] tp::rest) np) s1 by rw [HF.out,gl.out,if_neg (fun h=>z h.2.2)]);(have t3:(kn.kind==10)=false:=by simp [z]);(have t1:((m:Int)==1)=true:=by rw [D];rfl);(have gd:Hid (av (fun b=>w2.heap.size≤b) w3 (.agg #[.int .i64 nk,.string nt,.slice (some ⟨b,off,none⟩) m cp,.int .i64 np]) (.mk nk nt (.mk tk tt [kn] tp::rest) np)):=by have:=HV.out;simp only [Nd.kids_mk,Nd.kind_mk,Nd.text_mk,Nd.pos_mk,List.length_cons] at this;rw [hmm] at this;exact hid this);clear D N z hmm;(go_wp2_with fail);refine ow _ _ O.out gd.out gi ga (Nat.le_refl _) J ?_ rfl (by rfl) rfl;intro b hb;constructor <;> omega
    ·have O:=hid (show res=.ok (.mk nk nt (.mk tk tt [kn] tp::rest) np) s1 by rw [HF.out,gl.out,if_neg (fun h=>N h.2.1)]);(have t2:tt.toList.isEmpty=false:=by rw [aM];simp [N]);(have t1:((m:Int)==1)=true:=by rw [D];rfl);(have gd:Hid (av (fun b=>w2.heap.size≤b) w3 (.agg #[.int .i64 nk,.string nt,.slice (some ⟨b,off,none⟩) m cp,.int .i64 np]) (.mk nk nt (.mk tk tt [kn] tp::rest) np)):=by have:=HV.out;simp only [Nd.kids_mk,Nd.kind_mk,Nd.text_mk,Nd.pos_mk,List.length_cons] at this;rw [hmm] at this;exact hid this);clear D N hmm;(go_wp2_with fail);refine ow _ _ O.out gd.out gi ga (Nat.le_refl _) J ?_ rfl (by rfl) rfl;intro b hb;constructor <;> omega
   ·have O:=hid (show res=.ok (.mk nk nt (.mk tk tt [kn] tp::rest) np) s1 by rw [HF.out,gl.out,if_neg (fun h=>D h.1)]);(have t1:((m:Int)==1)=false:=by rw [beq_eq_false_iff_ne];omega);(have gd:Hid (av (fun b=>w2.heap.size≤b) w3 (.agg #[.int .i64 nk,.string nt,.slice (some ⟨b,off,none⟩) m cp,.int .i64 np]) (.mk nk nt (.mk tk tt [kn] tp::rest) np)):=by have:=HV.out;simp only [Nd.kids_mk,Nd.kind_mk,Nd.text_mk,Nd.pos_mk,List.length_cons] at this;rw [hmm] at this;exact hid this);clear D hmm;(go_wp2_with fail);refine ow _ _ O.out gd.out gi ga (Nat.le_refl _) J ?_ rfl (by rfl) rfl;intro b hb;constructor <;> omega
theorem Al (a:Array Value) (w:World):(callFunc 128 a).run Tryz.prog w=.ok (.enter 128 a) w:=by kernel_rfl
theorem ma (E:bN) (F:eB) (hF:mA E F):dC E (dG F) 86:=by
 intro w s h hno;generalize hres:dG F E.c s=res at *;have D:=hid hres;have hl:=hid hno;have hn:=h.lt;have hg:=h.most;clear hres hno;(go_enter Tryz.func86,Tryz.ntmps86);(go_wp2_with fail);have g8:aj ((w.alloc (.cells #[.pointer (some ⟨E.R,0,none⟩)] 52)).alloc (.cells aV 24)) w.heap.size 52 #[.pointer (some ⟨E.R,0,none⟩)]:=(aj.new w _ _).alloc _;(have g5:aj ((w.alloc (.cells #[.pointer (some ⟨E.R,0,none⟩)] 52)).alloc (.cells aV 24)) (w.heap.size+1) 24 aV:=by have:=aj.new (w.alloc (.cells #[.pointer (some ⟨E.R,0,none⟩)] 52)) 24 aV;simpa using this);refine (bw E s _ ((h.alloc _).alloc _)).mono ?_;unfold eO;rintro e w1 ⟨rfl,z⟩;have gv:=(((cw.refl h).alloc _).alloc _).step z;have gs:=g5.below z (by simp);have g7:=g8.below z (by simp;omega);have gl:=gs.lt;clear z g5 g8;(go_wp2_with fail);refine (aC _ _ _ _ _ ⟨_,_,_,rfl⟩).mono ?_;rintro e w2 ⟨rfl,U⟩;have gx:=gv.moved.step U;have g4:=gs.below U gl;have gh:=g7.below U (by omega);have hw:=U.size;have b2:=gh.cell 0;simp at b2;have gm:=gh.lt;have hf:=Nat.ne_of_lt gm;clear U gs g7 gv;(go_wp2_with fail);have g0:=aj.new w2 24 #[.int .i64 6,.string (⟨#[]⟩:BA),.slice none 0 0,.int .i64 (an E.c s)];have g3:=g4.alloc (.cells #[.int .i64 6,.string (⟨#[]⟩:BA),.slice none 0 0,.int .i64 (an E.c s)] 24);have g6:=gh.alloc (.cells #[.int .i64 6,.string (⟨#[]⟩:BA),.slice none 0 0,.int .i64 (an E.c s)] 24);have gn:=gx.alloc (.cells #[.int .i64 6,.string (⟨#[]⟩:BA),.slice none 0 0,.int .i64 (an E.c s)] 24);refine (bo E s _ _ gn.rd).mono ?_;rintro e w4 ⟨rfl,M⟩;(have hu:w2.heap.size+1≤w4.heap.size:=by have:=M.size;simp at this;omega);have gq:=g0.below M (by simp);have ge:=g3.below M (by simp;omega);have gu:=g6.below M (by simp;omega);have gb:=gn.step M;have b4:=gu.cell 0;simp at b4;clear g0 g3 g6 gn M g4 gh gx b2;cases hI:aE E.c s (⟨#[91]⟩:BA) with
 | false=>have HF:=hid (show res=.ok (.mk 6 (⟨#[]⟩:BA) [] 0) s by rw [←D.out,dG];simp [hI]);obtain ⟨x0,x1,x2,x3,y0,y1,y2,y3⟩:=ac gq;obtain ⟨d0,d1,d2,d3,e0,e1,e2,e3⟩:=ac ge;(have gk:w2.heap.size≠w.heap.size+1:=by omega);clear D;(go_wp2_with fail);refine au (X:=fun _=>False) HF.out (av.leaf _ _ _) (gb.own (p:=⟨w2.heap.size,3,none⟩) (by show w.heap.size≤w2.heap.size;omega) (by show E.R<w2.heap.size;omega) _) (ge.far (p:=⟨w2.heap.size,3,none⟩) (by show w.heap.size+1≠w2.heap.size;omega) _) (by omega) (by omega) ?_ rfl (by rfl) rfl;exact fun _ h=>h.elim
 | true=>
  (go_wp2_with fail);refine (ot E s _ gb.rd).mono ?_;rintro e w5 ⟨rfl,I⟩;have gp:=gq.below I.bel (by omega);have gd:=ge.below I.bel (by omega);have gt:=gu.below I.bel (by omega);have N:=gb.trans I.moved;have ht:=I.bel.size;clear gq ge gu gb I b4;cases hJ:dq E.c s with
  | true=>have HF:=hid (show res=.ok (.mk 6 (⟨#[]⟩:BA) [] 0) s by rw [←D.out,dG];simp [hI,hJ]);obtain ⟨x0,x1,x2,x3,y0,y1,y2,y3⟩:=ac gp;obtain ⟨d0,d1,d2,d3,e0,e1,e2,e3⟩:=ac gd;(have gk:w2.heap.size≠w.heap.size+1:=by omega);clear D;(go_wp2_with fail);refine au (X:=fun _=>False) HF.out (av.leaf _ _ _) (N.own (p:=⟨w2.heap.size,3,none⟩) (by show w.heap.size≤w2.heap.size;omega) (by show E.R<w2.heap.size;omega) _) (gd.far (p:=⟨w2.heap.size,3,none⟩) (by show w.heap.size+1≠w2.heap.size;omega) _) (by omega) (by omega) ?_ rfl (by rfl) rfl;exact fun _ h=>h.elim
  | false=>
   have gj:=hid (show (aO (cK F) (⟨#[93]⟩:BA) F.g [] E.c (adv s)).bind (fun l s1=>if l.length=0 then .fail (an E.c s1) else .ok (.mk 6 (⟨#[]⟩:BA) l (an E.c s)) s1)=res by rw [←D.out,dG];simp [hI,hJ]);have hp:=nE N.rd hI;obtain ⟨c0,c1,c2,c3,c4,f0⟩:=N.rd.cells;have f1:=f0 1;have hh:=N.rd.lt;have b5:=gt.cell 0;simp at b5;(have O:w.heap.size≠E.R:=by omega);clear D hI hJ f0;(go_wp2_with fail);have y:=N.setAt (s.at_+1) (by omega);have gz:=gp.far (p:=⟨E.R,1,none⟩) (by show w2.heap.size≠E.R;omega) (.int .i64 ((s.at_+1:Nat):Int));have g2:=gd.far (p:=⟨E.R,1,none⟩) (by show w.heap.size+1≠E.R;omega) (.int .i64 ((s.at_+1:Nat):Int));have gg:=gt.far (p:=⟨E.R,1,none⟩) (by show w.heap.size≠E.R;omega) (.int .i64 ((s.at_+1:Nat):Int));(have hr:w5.heap.size≤(w5.setCell ⟨E.R,1,none⟩ (.int .i64 ((s.at_+1:Nat):Int))).heap.size:=by simp);clear gp gd gt N c0 c1 c2 c3 c4 f1 b5;cases hP:aO (cK F) (⟨#[93]⟩:BA) F.g [] E.c (adv s) with
   | out=>exact absurd gj.out.symm (by rw [hP];exact hl.out)
   | fail q=>refine (fN E 128 #[] #[.pointer (some ⟨w.heap.size,0,none⟩)] (cK F) (⟨#[93]⟩:BA) F.g (adv s) _ y.rd Al (sL E F (nG E F hF) w.heap.size _ gg O) (by rw [hP];exact nofun) hF.g).mono ?_;rw [hP];rintro e w7 ⟨rfl,hi⟩;unfold ag;exact ⟨rfl,af (by rw [←gj.out,hP];rfl) y.gr hi⟩
   | ok l s2=>
    have gi:=hid (show (if l.length=0 then .fail (an E.c s2) else .ok (.mk 6 (⟨#[]⟩:BA) l (an E.c s)) s2)=res by rw [←gj.out,hP];rfl);refine (fN E 128 #[] #[.pointer (some ⟨w.heap.size,0,none⟩)] (cK F) (⟨#[93]⟩:BA) F.g (adv s) _ y.rd Al (sL E F (nG E F hF) w.heap.size _ gg O) (by rw [hP];exact nofun) hF.g).mono ?_;rw [hP];rintro e w7 ⟨⟨v,rfl,hv⟩,J⟩;have gy:=gz.grown J.gr (fun e=>by injection e with e;omega);have g1:=g2.grown J.gr (fun e=>by injection e with e;omega);have hk:=gg.grown J.gr (fun e=>by injection e with e;omega);have gw:=y.trans J;have hq:=J.gr.size;have ha:=hv.mono (Y:=fun b=>w2.heap.size+1≤b) (fun b hb _=>by omega);obtain ⟨A,cp,xs,rfl,_,_,_⟩:=hv;obtain ⟨x0,x1,x2,x3,y0,y1,y2,y3⟩:=ac gy;have ho:=gy.lt;have b7:=hk.cell 0;simp at b7;(have he:w.heap.size≠w2.heap.size:=by omega);clear gj hP gz g2 gg y J;by_cases hz:l.length=0
    ·have HF:=hid (show res=.fail (an E.c s2) by rw [←gi.out,if_pos hz]);(have g9:((l.length:Int)==0)=true:=by rw [hz];rfl);clear gi hz;(go_wp2_with fail);have ga:=gw.own (p:=⟨w2.heap.size,2,none⟩) (by show w.heap.size≤w2.heap.size;omega) (by show E.R<w2.heap.size;omega) (.slice A l.length cp);refine (dB E s2 _ ga.rd).mono ?_;rintro e w9 ⟨rfl,hj⟩;unfold ag;exact ⟨rfl,af HF.out ga.gr (ai _ hj)⟩
    ·have HF:=hid (show res=.ok (.mk 6 (⟨#[]⟩:BA) l (an E.c s)) s2 by rw [←gi.out,if_neg hz]);(have g9:((l.length:Int)==0)=false:=by rw [beq_eq_false_iff_ne];omega);obtain ⟨d0,d1,d2,d3,e0,e1,e2,e3⟩:=ac g1;(have hm:w.heap.size+1≠w2.heap.size:=by omega);clear gi hz;(go_wp2_with fail);have ga:=gw.own (p:=⟨w2.heap.size,2,none⟩) (by show w.heap.size≤w2.heap.size;omega) (by show E.R<w2.heap.size;omega) (.slice A l.length cp);refine au (X:=fun b=>w2.heap.size+1≤b) HF.out ?_ ga (g1.far (p:=⟨w2.heap.size,2,none⟩) (by show w.heap.size+1≠w2.heap.size;omega) (.slice A l.length cp)) (by omega) (by omega) ?_ rfl (by rfl) rfl
     ·exact (av.of_slice ha 6 (⟨#[]⟩:BA) (an E.c s)).kept ((ae.refl _ _).setCell (fun hX=>by simp at hX;omega) _)
     ·intro b hb;constructor <;> omega
end
end Go.Proofs.YtiebcdeafofgdaaGreatDoor
