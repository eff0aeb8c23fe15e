/-
  Parts of the proof: Rcatch RallF Runary Rlitk Rlit Rslices Rnamed Rfun Rask. By an AI agent.
-/
import Derived.Test.YtiebcdeafofgdaaGreatDoorJ12
import Derived.BigQuiet
import Derived.Defers
import Derived.Recover
import Derived.IntWalk
set_option maxRecDepth 100000
set_option maxHeartbeats 8000000
namespace Go.Proofs.YtiebcdeafofgdaaGreatDoor
section
open Go.RowKit Go.Lib Go.Proofs
attribute [local go_sem ↓] Go.wp_at_zero Go.wp_at_succ
attribute [local go_sem] aS aT aU bu bv bw bz
theorem L4(p q r:Addr)(w:World):
  CallsD Tryz.prog 59 #[.pointer (some p),.pointer (some q),.pointer (some r)] .returning w fun e u' w'=>e=.returned (.tuple #[])/\u'=.returning/\w'=w:=by
 refine vy Tryz.func59 rfl fun c₀ cs D=>?_;apply vD;apply qO;simp[wpOpsS,go_sem,recoverD,D,Tryz.ntmps59,Exit.thenS];apply vD;apply qO;simp[wpOpsS,go_sem,Exit.thenS];refine wpS_cond (t:=false) (by simp[Act.eval,Array.replicate]) ?_;simp only[gT,jY];refine wpS_of_wp (wp_skip ?_);cases c₀
 simp_all[bodyPostS,results,Tryz.results59]
theorem Pi(v:Value)(w:World):(Instr.typeAssert (.iface 73 v) 20 73 true).run Tryz.prog w=.ok (.tuple #[v,.bool true]) w:=by kernel_rfl
attribute [local go_sem] Pi
theorem AY(B P Q R:Nat)(p:Int)(a0 a1 a2 a3 vQ vR:Value)(w:World)(hP:au w P 24 #[a0,a1,a2,a3])(hQ:au w Q 3 #[vQ])(hR:au w R 29 #[vR])(J:B<=P)(gk:B<=Q)(gj:B<=R)(I:P≠Q)(D:P≠R)(h:Q≠R):
  CallsD Tryz.prog 59 #[P,Q,R] (.panicking [{ v:=.iface 73 (.agg #[.int .i64 p,.int .i64 5]),recovered:=false }]) w
   fun e u' w'=>e=.returned (.tuple #[])/\u'=.panicking [{ v:=.iface 73 (.agg #[.int .i64 p,.int .i64 5]),recovered:=true }] /\
    au w' P 24 bD/\au w' Q 3 #[.int .i64 p]/\au w' R 29 #[.int .i64 5]/\Below B w w':=by refine vy Tryz.func59 rfl fun c₀ cs hu=>?_;apply vD;apply qO;simp[wpOpsS,go_sem,recoverD,hu,Tryz.ntmps59,Exit.thenS];apply vD;apply qO;simp[wpOpsS,go_sem,Exit.thenS];refine wpS_cond (t:=true) (by simp[Act.eval,Array.replicate]) ?_;simp only[kJ];refine wpS_of_wp ?_;change Code.wp _ _ _ { tmps:=#[.pointer (some ⟨P,0,none⟩),.pointer (some ⟨Q,0,none⟩),.pointer (some ⟨R,0,none⟩),.iface 73 (.agg #[.int .i64 p,.int .i64 5]),undef,undef,.iface 73 (.agg #[.int .i64 p,.int .i64 5]),.iface 73 (.agg #[.int .i64 p,.int .i64 5]),.bool true,undef,undef,undef,undef,undef,undef,undef,undef,undef,undef,undef,undef,undef],defers:=[] } _;have gd:=hP.alloc (.cells #[.int .i64 p,.int .i64 5] 73);have N:=hQ.alloc (.cells #[.int .i64 p,.int .i64 5] 73);have M:=hR.alloc (.cells #[.int .i64 p,.int .i64 5] 73);have O:=au.new w 73 #[.int .i64 p,.int .i64 5];have gl:Below B w (w.alloc (.cells #[.int .i64 p,.int .i64 5] 73)):=(gG _ _).alloc (by have:=hP.lt;omega) _;have gp:=hP.lt;have gn:=hQ.lt;have gm:=hR.lt;(go_upto_region 5 with fail);generalize w.alloc (.cells #[.int .i64 p,.int .i64 5] 73)=w1 at *;(have gs:P≠w.heap.size:=by omega);(have gr:Q≠w.heap.size:=by omega);(have gq:R≠w.heap.size:=by omega);generalize w.heap.size=T at *;obtain⟨x0,x1,x2,x3,f0,f1,f2,f3⟩:=ag gd;have y1:=bg N;have y2:=bg M;have y3:w1.cell? ⟨T,0,none⟩=some (.int .i64 p):=(O.cell 0).trans rfl;have y4:w1.cell? ⟨T,1,none⟩=some (.int .i64 5):=(O.cell 1).trans rfl;have g1:=N.frozen 0;have g2:=M.frozen 0;go_region;all_goals have gb:au (ck w1 P (.int .i64 0) (.string ⟨#[]⟩) (.slice none 0 0) (.int .i64 0)) P 24 bD:=cg gd (.int .i64 0) (.string ⟨#[]⟩) (.slice none 0 0) (.int .i64 0);have ga:au (ck w1 P (.int .i64 0) (.string ⟨#[]⟩) (.slice none 0 0) (.int .i64 0)) Q 3 #[vQ]:=(((N.far (p:=⟨P,0,none⟩) I.symm (.int .i64 0)).far (p:=⟨P,1,none⟩) I.symm (.string ⟨#[]⟩)).far (p:=⟨P,2,none⟩) I.symm (.slice none 0 0)).far (p:=⟨P,3,none⟩) I.symm (.int .i64 0);have U:au (ck w1 P (.int .i64 0) (.string ⟨#[]⟩) (.slice none 0 0) (.int .i64 0)) R 29 #[vR]:=(((M.far (p:=⟨P,0,none⟩) D.symm (.int .i64 0)).far (p:=⟨P,1,none⟩) D.symm (.string ⟨#[]⟩)).far (p:=⟨P,2,none⟩) D.symm (.slice none 0 0)).far (p:=⟨P,3,none⟩) D.symm (.int .i64 0);have ge:Below B w (ck w1 P (.int .i64 0) (.string ⟨#[]⟩) (.slice none 0 0) (.int .i64 0)):=(((gl.setCell (p:=⟨P,0,none⟩) J _).setCell (p:=⟨P,1,none⟩) J _).setCell (p:=⟨P,2,none⟩) J _).setCell (p:=⟨P,3,none⟩) J _;unfold ck at gb ga U ge;generalize(((w1.setCell ⟨P,0,none⟩ (.int .i64 0)).setCell ⟨P,1,none⟩ (.string ⟨#[]⟩)).setCell ⟨P,2,none⟩ (.slice none 0 0)).setCell ⟨P,3,none⟩ (.int .i64 0)=w3 at *;have gi:au ((w3.setCell ⟨Q,0,none⟩ (.int .i64 p)).setCell ⟨R,0,none⟩ (.int .i64 5)) P 24 bD:=(gb.far (p:=⟨Q,0,none⟩) I (.int .i64 p)).far (p:=⟨R,0,none⟩) D (.int .i64 5);have gh:au ((w3.setCell ⟨Q,0,none⟩ (.int .i64 p)).setCell ⟨R,0,none⟩ (.int .i64 5)) Q 3 #[.int .i64 p]:=(show au (w3.setCell ⟨Q,0,none⟩ (.int .i64 p)) Q 3 #[.int .i64 p]by simpa using ga.set_ 0 (.int .i64 p)).far (p:=⟨R,0,none⟩) h (.int .i64 5);(have gg:au ((w3.setCell ⟨Q,0,none⟩ (.int .i64 p)).setCell ⟨R,0,none⟩ (.int .i64 5)) R 29 #[.int .i64 5]:=by simpa using(U.far (p:=⟨Q,0,none⟩) h.symm (.int .i64 p)).set_ 0 (.int .i64 5));refine⟨rfl,_,rfl,.tuple #[],?_,rfl,rfl,gi.drew,gh.drew,gg.drew,((ge.setCell (p:=⟨Q,0,none⟩) gk (.int .i64 p)).setCell (p:=⟨R,0,none⟩) gj (.int .i64 5)).drew⟩;simp[results,Tryz.results59,go_sem]
theorem td{w w1 w5:World}{R:Option Nat}(D:w.grownBy w1 R)(hb:Below w.heap.size w1 w5):w.grownBy w5 R:=
 ⟨hb.os.trans D.os,hb.tape.trans D.tape,hb.output.trans D.output,jB D.size hb.size,fun b hb' hne=>(hb.block b hb').trans (D.block b hb' hne)⟩
def L5(E:co)(w:World)(p:Int)(e:Ending)(w':World):Prop:=
 e=.returned (.tuple #[.agg bD,.int .i64 p,.int .i64 5])/\w.grownBy w' (some E.R)
theorem DC(E:co)(k:FuncId)(first cap:Array Value)(part:R Nd)(s:St)(p:Int)(sort:ByteArray)(w:World)(h:aR E w s)
  (hk:∀a w,(callFunc k a).run Tryz.prog w=.ok (.enter k a) w)(hp:fP E k (first++cap) part w)(hP:part E.c s=.fail p):
  Calls Tryz.prog 31 #[E.R,.string sort,.func (.func k) first cap] w (L5 E w p):=by have gj:∀(fn:Fn)(first cap:Array Value)(w:World),(Instr.makeFunc fn first cap).run Tryz.prog w=.ok (.func fn first cap) w:=fun _ _ _ _=>rfl;have gi:=h.lt;have I:=(((aD.refl h).alloc (.cells bD 24)).alloc (.cells #[.int .i64 0] 3)).alloc (.cells #[.int .i64 0] 29);have ga:au (((w.alloc (.cells bD 24)).alloc (.cells #[.int .i64 0] 3)).alloc (.cells #[.int .i64 0] 29)) w.heap.size 24 bD:=((au.new w _ _).alloc _).alloc _;have O:au (((w.alloc (.cells bD 24)).alloc (.cells #[.int .i64 0] 3)).alloc (.cells #[.int .i64 0] 29)) (w.heap.size+1) 3 #[.int .i64 0]:=(au.new_at (by simp) _ _).alloc _;have M:au (((w.alloc (.cells bD 24)).alloc (.cells #[.int .i64 0] 3)).alloc (.cells #[.int .i64 0] 29)) (w.heap.size+2) 29 #[.int .i64 0]:=au.new_at (by simp) _ _;have HC:=hid (hp _ s I.gr I.rd (by rw[hP];exact nofun));rw[hP]at HC;clear hp hP;(go_enter_defers Tryz.func31,Tryz.ntmps31);(go_wp2_with fail);refine HC.out.mono ?_;rintro e w1⟨rfl,D⟩;have U:=ga.grown D;have N:=O.grown D;have J:=M.grown D;have gb:=I.gr.trans D;clear ga O M I HC D;unfold al;refine kT (f:=59) (args:=#[w,.pointer (some ⟨w.heap.size+1,0,none⟩),.pointer (some ⟨w.heap.size+1+1,0,none⟩)]) (by simp) (by simp[go_sem]) ?_;refine(AY w.heap.size w.heap.size (w.heap.size+1) (w.heap.size+2) p _ _ _ _ _ _ w1 U N J (d5 _) (by omega) (by omega) (by omega) (by omega) (by omega)).mono ?_;rintro e u' w5⟨rfl,rfl,gg,ge,gd,gh⟩;obtain⟨x0,x1,x2,x3,-,-,-,-⟩:=ag gg;have z1:=bg ge;have z2:w5.cell? ⟨w.heap.size+1+1,0,none⟩=some (.int .i64 5):=bg gd;simp[Leaves,settle,results,Tryz.results31,go_sem,x0,x1,x2,x3,z1,z2];exact⟨rfl,td gb gh⟩
theorem DD(E:co)(k:FuncId)(first cap:Array Value)(part:R Nd)(s s1:St)(n:Nd)(sort:ByteArray)(w:World)(h:aR E w s)
  (hk:∀a w,(callFunc k a).run Tryz.prog w=.ok (.enter k a) w)(hp:fP E k (first++cap) part w)(hP:part E.c s=.ok n s1)(gx:s1.at_<E.c.toks.length):
  Calls Tryz.prog 31 #[E.R,.string sort,.func (.func k) first cap] w (L5 E w (av E.c s1)):=by have g5:∀(fn:Fn)(first cap:Array Value)(w:World),(Instr.makeFunc fn first cap).run Tryz.prog w=.ok (.func fn first cap) w:=fun _ _ _ _=>rfl;have gl:=h.lt;have ga:=(((aD.refl h).alloc (.cells bD 24)).alloc (.cells #[.int .i64 0] 3)).alloc (.cells #[.int .i64 0] 29);have gv:au (((w.alloc (.cells bD 24)).alloc (.cells #[.int .i64 0] 3)).alloc (.cells #[.int .i64 0] 29)) w.heap.size 24 bD:=((au.new w _ _).alloc _).alloc _;have gt:au (((w.alloc (.cells bD 24)).alloc (.cells #[.int .i64 0] 3)).alloc (.cells #[.int .i64 0] 29)) (w.heap.size+1) 3 #[.int .i64 0]:=(au.new_at (by simp) _ _).alloc _;have gq:au (((w.alloc (.cells bD 24)).alloc (.cells #[.int .i64 0] 3)).alloc (.cells #[.int .i64 0] 29)) (w.heap.size+2) 29 #[.int .i64 0]:=au.new_at (by simp) _ _;have HC:=hid (hp _ s ga.gr ga.rd (by rw[hP];exact nofun));rw[hP]at HC;(have g6:(s1.at_:Int)<(E.c.toks.length:Int):=by omega);clear hp hP gx;(go_enter_defers Tryz.func31,Tryz.ntmps31);(go_wp2_with fail);refine HC.out.mono ?_;rintro e w1⟨⟨v,rfl,hv⟩,M⟩;obtain⟨A,cp,rfl,hC⟩:=hv.toC;have O:=gv.grown M.gr;have gg:=gt.grown M.gr;have gd:=gq.grown M.gr;have gn:=ga.trans M;(have gy:(((w.alloc (.cells bD 24)).alloc (.cells #[.int .i64 0] 3)).alloc (.cells #[.int .i64 0] 29)).heap.size=w.heap.size+3:=by simp);have gw:=M.gr.size;rw[gy]at gw hv;obtain⟨d0,d1,d2,d3,e0,e1,e2,e3⟩:=ag O;have J:=cg O (.int .i64 n.kind) (.string n.text) (.slice A n.kids.length cp) (.int .i64 n.pos);have U:=fe gn (d5 _) gl (.int .i64 n.kind) (.string n.text) (.slice A n.kids.length cp) (.int .i64 n.pos);have gi:=hv.kept (dq (X:=fun b=>w.heap.size+3<=b) (wk:=w1) (g:=w.heap.size) (fun b hb=>by have hb:w.heap.size+3<=b:=hb;omega) (.int .i64 n.kind) (.string n.text) (.slice A n.kids.length cp) (.int .i64 n.pos));have I:=(((gg.far (p:=⟨w,0,none⟩) (by show w.heap.size+1≠w.heap.size;omega) (.int .i64 n.kind)).far (p:=⟨w,1,none⟩) (by show w.heap.size+1≠w.heap.size;omega) (.string n.text)).far (p:=⟨w,2,none⟩) (by show w.heap.size+1≠w.heap.size;omega) (.slice A n.kids.length cp)).far (p:=⟨w,3,none⟩) (by show w.heap.size+1≠w.heap.size;omega) (.int .i64 n.pos);have D:=(((gd.far (p:=⟨w,0,none⟩) (by show w.heap.size+2≠w.heap.size;omega) (.int .i64 n.kind)).far (p:=⟨w,1,none⟩) (by show w.heap.size+2≠w.heap.size;omega) (.string n.text)).far (p:=⟨w,2,none⟩) (by show w.heap.size+2≠w.heap.size;omega) (.slice A n.kids.length cp)).far (p:=⟨w,3,none⟩) (by show w.heap.size+2≠w.heap.size;omega) (.int .i64 n.pos);have I:au (ck w1 w.heap.size (.int .i64 n.kind) (.string n.text) (.slice A n.kids.length cp) (.int .i64 n.pos)) (w.heap.size+1) 3 #[.int .i64 0]:=I;have D:au (ck w1 w.heap.size (.int .i64 n.kind) (.string n.text) (.slice A n.kids.length cp) (.int .i64 n.pos)) (w.heap.size+2) 29 #[.int .i64 0]:=D;obtain⟨c0,c1,-,-,-,-⟩:=U.rd.cells;unfold ck at c0 c1 J I D U gi;clear gn;clear O gg gd M;clear gv gt gq;clear ga;clear HC hC;clear hv;(go_upto_region 3 with fail);generalize(((w1.setCell ⟨w,0,none⟩ (.int .i64 n.kind)).setCell ⟨w,1,none⟩ (.string n.text)).setCell ⟨w,2,none⟩ (.slice A n.kids.length cp)).setCell ⟨w,3,none⟩ (.int .i64 n.pos)=w2 at *;clear d0 d1 d2 d3 e0 e1 e2 e3;(go_wp2_with fail);go_quiet (fail);have gk:=gi.below ((bC (gG _ w2) nq));have gj:=U.drewN nq;obtain⟨x0,x1,x2,x3,-,-,-,-⟩:=ag (J.drewN nq);have ge:=I.drewN nq;have gb:=D.drewN nq;have gh:=J.drewN nq;have g3:=hid gk;clear gi U J I D c0 c1 gk;generalize w2.drewN nq=w3 at *;(go_wp2_with fail);refine(eE E s1 _ gj.rd).mono ?_;rintro e w4⟨rfl,N⟩;have gm:=gj.step N;have gu:=gh.bl N;have gs:=ge.bl N;have gp:=gb.bl N;have g4:=gm.gr.size;clear N gj gh ge gb g3 x0 x1 x2 x3;unfold al;refine kT (f:=59) (args:=#[w,.pointer (some ⟨w.heap.size+1,0,none⟩),.pointer (some ⟨w.heap.size+1+1,0,none⟩)]) (by simp) (by simp[go_sem]) ?_;refine(AY w.heap.size w.heap.size (w.heap.size+1) (w.heap.size+2) (av E.c s1) _ _ _ _ _ _ w4 gu gs gp (d5 _) (by omega) (by omega) (by omega) (by omega) (by omega)).mono ?_;rintro e u' w5⟨rfl,rfl,g1,g0,gz,g2⟩;obtain⟨x0,x1,x2,x3,-,-,-,-⟩:=ag g1;have z1:=bg g0;have z2:w5.cell? ⟨w.heap.size+1+1,0,none⟩=some (.int .i64 5):=bg gz;simp[Leaves,settle,results,Tryz.results31,go_sem,x0,x1,x2,x3,z1,z2];exact⟨rfl,td gm.gr g2⟩
theorem lh{w:World}{T:Nat}{t:TypeId}{a b c:Value}(h:au w T t #[a,b,c]):w.cell? ⟨T,1,none⟩=some b/\w.cell? ⟨T,2,none⟩=some c:=
 ⟨(h.cell 1).trans rfl,(h.cell 2).trans rfl⟩
theorem Ir(E:co)(F:fJ)(hF:oy E F)(hP:eF E (fE F) 138):eF E (iG F) 92:=by
 intro w s h hno;generalize M:iG F E.c s=res at *;have gu:=hid hno;have gi:=h.lt;have N:=hid (show(if aP E.c s ⟨#[45]⟩||aP E.c s ⟨#[33]⟩then(F.unary E.c (adv s)).bind fun x s1=>.ok (.mk 19 (ar E.c s.at_).text [x] (ar E.c s.at_).pos) s1 else fE F E.c s)=res from M);clear M hno;(go_enter Tryz.func92,Tryz.ntmps92);(go_wp2_with fail);refine(bL E s _ (h.alloc _)).mono ?_;unfold it;rintro e w1⟨rfl,gn⟩;have g9:=(((cU.refl h).alloc _).step gn).moved;have he:=(au.new w 24 bD).below gn (by simp);(have ho:w.heap.size+1<=w1.heap.size:=by have:=gn.size;simp at this;omega);clear gn;generalize ar E.c s.at_=tk at *;have gq:=au.new w1 43 #[.int .i64 tk.kind,.string tk.text,.int .i64 tk.pos];have gt:=he.alloc (.cells #[.int .i64 tk.kind,.string tk.text,.int .i64 tk.pos] 43);have gg:=g9.alloc (.cells #[.int .i64 tk.kind,.string tk.text,.int .i64 tk.pos] 43);(have hn:w1.heap.size+1<=(w1.alloc (.cells #[.int .i64 tk.kind,.string tk.text,.int .i64 tk.pos] 43)).heap.size:=by simp);(go_upto_region 2 with fail);generalize hTT:w1.heap.size=T at *;change Code.wp _ _ _ _ (w1.alloc (.cells #[.int .i64 tk.kind,.string tk.text,.int .i64 tk.pos] 43));generalize w1.alloc (.cells #[.int .i64 tk.kind,.string tk.text,.int .i64 tk.pos] 43)=w2 at *;(have gb:T≠w.heap.size:=by omega);(have gp:T≠E.R:=by omega);clear hTT he g9;(go_wp2_with fail);cases hA:aP E.c s ⟨#[45]⟩with
 | true=>
  have HE:=hid (show(F.unary E.c (adv s)).bind (fun x s1=>.ok (.mk 19 tk.text [x] tk.pos) s1)=res by rw[<-N.out,gE (by rw[hA];rfl)]);refine(bi E s _ _ gg.rd hA).mono ?_;rintro e w7⟨rfl,I⟩;have gd:=gq.grown I.gr (fun e=>gp (by injection e));have gl:=gt.grown I.gr;have ga:=gg.trans I;have hh:=I.gr.size;clear N hA gq gt gg I;have s7:=lh gd;have gx:=lh gd.drew;(go_wp2_with fail);cases hQ:F.unary E.c (adv s)with
  |out=>exact absurd HE.out.symm (by rw[hQ];exact gu.out)
  |fail q=>have HF:Hid (res=.fail q):=hid (by rw[<-HE.out,hQ];rfl);let SS:World->Prop:=fun w'=>w'.cell? ⟨T,1,none⟩=some (.string tk.text)/\w'.cell? ⟨T,2,none⟩=some (.int .i64 tk.pos);have g5:SS w7.drew:=s7;(refine gZ (S:=SS) (by kernel_rfl) g5 ?_;intro J;refine dL 0 J ?_;refine dL 1 J ?_;refine dL 2 J ?_;refine dL 3 J ?_;refine dL 4 J ?_;refine tM 5 fun K hK=>?_;go_simp);refine(hF.unary _ _ ga.drew.rd (by rw[hQ];exact nofun)).mono ?_;rw[hQ];rintro e w8⟨rfl,gy⟩;unfold al;exact⟨rfl,ah HF.out ga.drew.gr gy⟩
  | ok n8 s8=>
   have HF:Hid (res=.ok (.mk 19 tk.text [n8] tk.pos) s8):=hid (by rw[<-HE.out,hQ];rfl);have HC:=hid (fun W(hr:aR E W (adv s))=>hF.unary W (adv s) hr (by rw[hQ];exact nofun));rw[hQ]at HC;clear HE hQ;go_region_held3 (fun w'=>w'.cell? ⟨T,1,none⟩=some (.string tk.text)/\w'.cell? ⟨T,2,none⟩=some (.int .i64 tk.pos))
    (first|with_reducible exact s9 _ _ _ _|with_reducible exact gv|with_reducible exact gw _|with_reducible exact s8|with_reducible exact gx|with_reducible exact s7)
    (first
     |(go_at_call 92;refine(HC.out _ ga.drew.rd).mono ?_;rintro e w8⟨⟨v,rfl,hv⟩,D⟩;obtain⟨An,cn,rfl,g4⟩:=hv.toC;have U:=gd.drew.grown D.gr (fun e=>gp (by injection e));have s8:=lh U;have gw:=fun o:Obj=>lh (U.alloc o))
     |(go_at_call 64;refine(aN _ _ _ _ _ ⟨_,_,_,rfl⟩).mono ?_;rintro e w9⟨rfl,O⟩;have gj:=(U.alloc _).below O (by have:=U.lt;simp;omega);have gv:=lh gj;have s9:=fun a b c d:Value=>lh ((((gj.far (p:=⟨w,0,none⟩) (by exact gb) a).far (p:=⟨w,1,none⟩) (by exact gb) b).far (p:=⟨w,2,none⟩) (by exact gb) c).far (p:=⟨w,3,none⟩) (by exact gb) d);have gk:=((gl.drew.grown D.gr).alloc _).below O (by have:=(gl.drew.grown D.gr).lt;simp;omega);obtain⟨g0,g1,g2,g3,k0,k1,k2,k3⟩:=ag gk))
   (all_goals go_wp2_with fail);all_goals have hg:w7.heap.size<=w8.heap.size:=D.gr.size;have hf:w7.drew.heap.size=w7.heap.size:=rfl;have hV:=aq.make 1 rfl (an.one (g4.mono (Y:=fun b=>w.heap.size+1<=b) fun b hb _=>by omega)) 19 tk.text tk.pos O;refine aB HF.out hV (((ga.drew.trans D).alloc _).step O) gk (d5 _) gi ?_ rfl (by rfl) rfl;rintro b(⟨hb,_⟩|rfl)<;>constructor<;>omega
 | false=>
  refine(bA E s _ _ gg.rd hA).mono ?_;rintro e w3⟨rfl,gh⟩;have g8:=gq.bl gh.bel;have gs:=gt.bl gh.bel;have ge:=gg.trans gh.moved;have hm:=gh.bel.size;clear gq gt gg gh;(go_wp2_with fail);cases hB:aP E.c s ⟨#[33]⟩with
  | true=>
   have HE:=hid (show(F.unary E.c (adv s)).bind (fun x s1=>.ok (.mk 19 tk.text [x] tk.pos) s1)=res by rw[<-N.out,gE (by rw[hA,hB];rfl)]);refine(bi E s _ _ ge.rd hB).mono ?_;rintro e w7⟨rfl,I⟩;have gd:=g8.grown I.gr (fun e=>gp (by injection e));have gl:=gs.grown I.gr;have ga:=ge.trans I;have hh:=I.gr.size;clear N hA hB g8 gs ge I;have s7:=lh gd;have gx:=lh gd.drew;(go_wp2_with fail);cases hQ:F.unary E.c (adv s)with
   |out=>exact absurd HE.out.symm (by rw[hQ];exact gu.out)
   |fail q=>have HF:Hid (res=.fail q):=hid (by rw[<-HE.out,hQ];rfl);let SS:World->Prop:=fun w'=>w'.cell? ⟨T,1,none⟩=some (.string tk.text)/\w'.cell? ⟨T,2,none⟩=some (.int .i64 tk.pos);have g5:SS w7.drew:=s7;(refine gZ (S:=SS) (by kernel_rfl) g5 ?_;intro J;refine dL 0 J ?_;refine dL 1 J ?_;refine dL 2 J ?_;refine dL 3 J ?_;refine dL 4 J ?_;refine tM 5 fun K hK=>?_;go_simp);refine(hF.unary _ _ ga.drew.rd (by rw[hQ];exact nofun)).mono ?_;rw[hQ];rintro e w8⟨rfl,gy⟩;unfold al;exact⟨rfl,ah HF.out ga.drew.gr gy⟩
   | ok n8 s8=>
    have HF:Hid (res=.ok (.mk 19 tk.text [n8] tk.pos) s8):=hid (by rw[<-HE.out,hQ];rfl);have HC:=hid (fun W(hr:aR E W (adv s))=>hF.unary W (adv s) hr (by rw[hQ];exact nofun));rw[hQ]at HC;clear HE hQ;go_region_held3 (fun w'=>w'.cell? ⟨T,1,none⟩=some (.string tk.text)/\w'.cell? ⟨T,2,none⟩=some (.int .i64 tk.pos))
     (first|with_reducible exact s9 _ _ _ _|with_reducible exact gv|with_reducible exact gw _|with_reducible exact s8|with_reducible exact gx|with_reducible exact s7)
     (first
      |(go_at_call 92;refine(HC.out _ ga.drew.rd).mono ?_;rintro e w8⟨⟨v,rfl,hv⟩,D⟩;obtain⟨An,cn,rfl,g4⟩:=hv.toC;have U:=gd.drew.grown D.gr (fun e=>gp (by injection e));have s8:=lh U;have gw:=fun o:Obj=>lh (U.alloc o))
      |(go_at_call 64;refine(aN _ _ _ _ _ ⟨_,_,_,rfl⟩).mono ?_;rintro e w9⟨rfl,O⟩;have gj:=(U.alloc _).below O (by have:=U.lt;simp;omega);have gv:=lh gj;have s9:=fun a b c d:Value=>lh ((((gj.far (p:=⟨w,0,none⟩) (by exact gb) a).far (p:=⟨w,1,none⟩) (by exact gb) b).far (p:=⟨w,2,none⟩) (by exact gb) c).far (p:=⟨w,3,none⟩) (by exact gb) d);have gk:=((gl.drew.grown D.gr).alloc _).below O (by have:=(gl.drew.grown D.gr).lt;simp;omega);obtain⟨g0,g1,g2,g3,k0,k1,k2,k3⟩:=ag gk))
    (all_goals go_wp2_with fail);all_goals have hg:w7.heap.size<=w8.heap.size:=D.gr.size;have hf:w7.drew.heap.size=w7.heap.size:=rfl;have hV:=aq.make 1 rfl (an.one (g4.mono (Y:=fun b=>w.heap.size+1<=b) fun b hb _=>by omega)) 19 tk.text tk.pos O;refine aB HF.out hV (((ga.drew.trans D).alloc _).step O) gk (d5 _) gi ?_ rfl (by rfl) rfl;rintro b(⟨hb,_⟩|rfl)<;>constructor<;>omega
  |false=>
   have HE:Hid (fE F E.c s=res):=hid (by rw[<-N.out,gA (by rw[hA,hB];decide)]);refine(bA E s _ _ ge.rd hB).mono ?_;rintro e w4⟨rfl,gm⟩;have hk:=gs.bl gm.bel;have gz:=ge.trans gm.moved;have hl:=gm.bel.size;clear N hA hB gs ge gm;(go_wp2_with fail);refine(hP _ s gz.rd (by rw[HE.out];exact gu.out)).mono ?_;rw[HE.out];cases M:res with
   |out=>exact absurd M gu.out
   |fail p=>rintro e w5⟨rfl,hi⟩;unfold al;exact⟨rfl,ah (by first|rfl|exact M) gz.gr hi⟩
   |ok n5 s5=>rintro e w5⟨⟨v5,rfl,g6⟩,g7⟩;obtain⟨A5,c5,rfl,hp⟩:=g6.toC;have ha:=hk.grown g7.gr;have hj:=gz.trans g7;obtain⟨d0,d1,d2,d3,e0,e1,e2,e3⟩:=ag ha;(go_wp2_with fail);refine aB (by first|rfl|exact M) g6 hj ha (d5 _) gi ?_ rfl (by rfl) rfl;intro b hb;constructor<;>omega
end
section
open Go.RowKit Go.Lib Go.Proofs
theorem AU{w:World}{g:Nat}{t:TypeId}{a:Value}(h:au w g t #[a]):w.cell? ⟨g,0,none⟩=some a:=(h.cell 0).trans rfl
theorem AV(part:R Nd)(en:ByteArray)(c:Cx):∀(g:Nat)(acc:List Nd)(s:St)(l:List Nd)(s':St),aX part en g acc c s=.ok l s'->l.length<=acc.length+g
 |0,_,_,_,_,h=>by simp[aX]at h
 | g+1,acc,s,l,s',h=>by
  simp only[aX]at h;split at h
  ·injection h with J _;subst J;omega
  ·cases D:part c s with
   |out=>rw[D]at h;cases h
   |fail p=>rw[D]at h;cases h
   | ok n s1=>
    rw[D]at h;simp only[bH.bind_ok]at h;split at h
    ·injection h with J _;subst J;simp
    ·cases I:need ⟨#[44]⟩ c s1 with
     |out=>rw[I]at h;cases h
     |fail p=>rw[I]at h;cases h
     |ok u s2=>rw[I]at h;have:=AV part en c g (acc++[n]) s2 l s' h;simp at this;omega
theorem pO{part:R Nd}{en:ByteArray}{c:Cx}{g:Nat}{s:St}{l:List Nd}{s':St}(h:ce (aX part en g []) c s=.ok l s'):l.length<=g:=by
 unfold ce at h;cases D:aX part en g [] c { s with head:=false }with
 |out=>rw[D]at h;cases h
 |fail p=>rw[D]at h;cases h
 |ok l1 s1=>rw[D]at h;simp only[bH.bind_ok]at h;injection h with I _;subst I;have:=AV part en c g [] _ _ _ D;simpa using this
theorem oD{X:Nat->Prop}{w:World}{size n:Nat}{A:Option Addr}{xs:List Value}(h:fU X w size A n xs)(hs:0<size):cw w w.heap.size size A n xs:=by refine⟨h.1,fun D=>?_⟩;obtain⟨b,off,rfl,_,hc⟩:=h.2 D;(have I:0<xs.length:=by rw[h.1];exact Nat.mul_pos D hs);refine⟨_,rfl,gX w _ (hc 0 xs[0] (gQ I)),fun j u hu=>?_⟩;rw[rU];exact hc j u hu
theorem lq{X:Nat->Prop}{w:World}:∀{l:List Nd}{xs:List Value},an X w l xs->∀u∈xs,u.oneCell'=true
 |[],xs,h=>by unfold an at h;subst h;simp
 |n::l,xs,h=>by
  unfold an at h;obtain⟨ys,zs,rfl,J,I⟩:=h;obtain⟨A,cap,_,rfl,_⟩:=J.toV;intro u D;rcases List.mem_append.1 D with D|D
  ·exact sH n A cap u D
  ·exact lq I u D
theorem o6{w:World}{K B:Nat}{a b c d:Value}(hb:au w K 24 #[a,b,c,d])(hB:B<=K):w.ownsRow B 24 4 (.slice (some ⟨K,0,none⟩) 1 1) 1 [a,b,c,d]:=
 ⟨rfl,.inr ⟨K,1,#[a,b,c,d],rfl,hB,hb,d5 _,by unfold maxLen;omega,rfl,rfl⟩⟩
theorem r7{X:Nat->Prop}{w:World}{B n:Nat}{v:Value}{l:List Nd}{xs:List Value}(h:w.ownsRow B 24 4 v n xs)(M:l.length=n)(U:∀g,v.ownBlock=some g->X g)(hc:an X w l xs):dG X w v l:=by
 subst M;rcases h.2 with⟨rfl,h0⟩|⟨g,cap,cur,rfl,hg,O,D,_,J,I⟩
 ·exact⟨none,0,xs,by rw[h0],by omega,⟨h.1,fun h=>by omega⟩,hc⟩
 ·refine⟨_,cap,xs,rfl,D,⟨h.1,fun _=>⟨g,0,rfl,U g rfl,fun j u hu=>?_⟩⟩,hc⟩;(have N:j<l.length*4:=by have:=(List.getElem?_eq_some_iff.1 hu).1;rw[h.1]at this;exact this);rw[kR];unfold World.cell?;rw[O];simp only[qo,gT,jY];rw[<-I,qV N]at hu;rw[<-hu];simp
theorem pP{w:World}{B n:Nat}{t:TypeId}{size:Nat}{v:Value}{xs:List Value}(h:w.ownsRow B t size v n xs):∃A c,v=.slice A n c/\n<=c:=by
 rcases h.2 with⟨rfl,I⟩|⟨g,cap,cur,rfl,_,_,D,_⟩
 ·exact⟨none,0,by rw[I],by omega⟩
 ·exact⟨_,cap,rfl,D⟩
theorem aD.grownNew{E:co}{s:St}{w w1 w2:World}{K:Nat}(h:aD E s w w1)(D:w1.grownBy w2 (some K))(hK:w.heap.size<=K)(I:E.R<K):aD E s w w2:=
 ⟨h.rd.grown D (fun g e=>by injection e with e;omega),D.os.trans h.gr.os,D.tape.trans h.gr.tape,D.output.trans h.gr.output,jB h.gr.size D.size,fun k hk hne=>(D.block k (kH hk h.gr.size) (fun e=>by injection e with e;omega)).trans (h.gr.block k hk hne)⟩
theorem LY{E:co}{sA s2:St}{w0 w D N w8:World}{K O G:Nat}{x:Nd}{l:List Nd}{A:Option Addr}{cp:Nat}{A8:Option Addr}{c8:Nat}{ys:List Value}
  (gh:aD E sA w D)(hC:bK (fun b=>w0.heap.size<=b/\b<w.heap.size) D x [.int .i64 x.kind,.string x.text,.slice A x.kids.length cp,.int .i64 x.pos])
  (gn:w0.heap.size<=w.heap.size)(gj:E.R<w0.heap.size)(ga:w.heap.size<=K)(gu:K<D.heap.size)(gq:O<D.heap.size)(h:w.heap.size<=O)(gs:K≠O)(gv:G<D.heap.size)(gk:w.heap.size<=G)(gt:K≠G)(gp:O≠G)
  (M:aD E s2 D.drew N)(gd:an (fun b=>D.drew.heap.size<=b) N l ys)
  (J:w8.ownsRow K 24 4 (.slice A8 (1+l.length) c8) (1+l.length) ([.int .i64 x.kind,.string x.text,.slice A x.kids.length cp,.int .i64 x.pos]++ys))(I:N.grownBy w8 (some K))
  (U:(Value.slice A8 (1+l.length) c8).ownBlock=some K\/(Value.slice A8 (1+l.length) c8).ownBlock=some N.heap.size)(kind:Int)(t:ByteArray)(pos:Int)(o:Nat)(u:Value):
  aq (fun b=>w0.heap.size<=b/\b≠G/\b≠O) (w8.setCell ⟨O,o,none⟩ u) (.agg #[.int .i64 kind,.string t,.slice A8 (1+l.length) c8,.int .i64 pos]) (.mk kind t (x::l) pos)/\aD E s2 w (w8.setCell ⟨O,o,none⟩ u):=by
 have hd:D.drew.heap.size=D.heap.size:=rfl;have gm:D.heap.size<=N.heap.size:=M.gr.size;have gl:=I.size;have gi:=(((hC.keep (w:=D) (w':=D.drew) (fun _ _ _=>rfl)).keep (w':=N) (am.of_grown (X:=fun b=>w0.heap.size<=b/\b<w.heap.size) M.gr).block).keep (w':=w8) (am.of_grown (X:=fun b=>w0.heap.size<=b/\b<w.heap.size) I).block).mono (Y:=fun b=>w0.heap.size<=b/\b≠G/\b≠O) (fun b hb _=>⟨hb.1,by omega,by omega⟩);have gb:=(gd.keep (w':=w8) (am.of_grown (X:=fun b=>D.drew.heap.size<=b) I).block).mono (Y:=fun b=>w0.heap.size<=b/\b≠G/\b≠O) (fun b hb _=>⟨by omega,by omega,by omega⟩);have gg:=r7 (X:=fun b=>w0.heap.size<=b/\b≠G/\b≠O) (l:=x::l) J (by simp;omega) (fun g hg=>by
  rcases U with e|e<;>rw[hg]at e<;>injection e with e
  ·exact⟨by omega,by omega,by omega⟩
  ·exact⟨by omega,by omega,by omega⟩) (an.cons gi gb)
 have ge:=gg.kept (am.setCell (am.refl (fun b=>w0.heap.size<=b/\b≠G/\b≠O) w8) (p:=⟨O,o,none⟩) (fun hX=>hX.2.2 rfl) u);refine⟨aq.of_slice ge kind t pos,?_⟩;exact((gh.drew.trans M).grownNew I ga (by omega)).own (p:=⟨O,o,none⟩) h (by show E.R<O;omega) u
end
section
open Go.RowKit Go.Lib Go.Proofs
attribute [local go_sem ↓] Go.wp_at_zero Go.wp_at_succ
attribute [local go_sem] aS aT aU bu bv bw bz
def TG(E:co)(F:fJ):Prop:=
 ∀ (w0 w:World)(s:St)(x:Nd)(v:Value),E.R<w0.heap.size->w0.grownBy w (some E.R)->aR E w s->aq (fun b=>w0.heap.size<=b) w v x->da F x E.c s≠.out ->
   Calls Tryz.prog 190 #[E.R,v] w (uB E w0 w (da F x E.c s))
theorem uC(E:co)(F:fJ)(hF:oy E F):TG E F:=by
 intro w0 w s x v hR0 hgr0 h hv hno;obtain⟨A,cp,rfl,hC⟩:=hv.toC;generalize hres:da F x E.c s=res at *;have gd:=hid (show(need ⟨#[123]⟩ E.c s).bind (fun _ s1=>(ce (aX F.expr ⟨#[125]⟩ F.g []) E.c s1).bind fun l s2=>.ok (.mk 24 ⟨#[]⟩ (x::l) x.pos) s2)=res from hres);have hw:=hid hno;have hy:=h.lt;have hl:=hgr0.size;have hC:=hC.mono (Y:=fun b=>w0.heap.size<=b/\b<w.heap.size) (fun b hb M=>⟨hb,M⟩);have h6:=hF.g;clear hres hno hv;have gj:Below w w (((w.alloc (.cells #[E.R] 52)).alloc (.cells (nv x A cp) 24)).alloc (.cells bD 24)):=bel;have gl:au (((w.alloc (.cells #[E.R] 52)).alloc (.cells (nv x A cp) 24)).alloc (.cells bD 24)) w.heap.size 52 #[E.R]:=((au.new w _ _).alloc _).alloc _;have gu:au (((w.alloc (.cells #[E.R] 52)).alloc (.cells (nv x A cp) 24)).alloc (.cells bD 24)) (w.heap.size+1) 24 (nv x A cp):=(au.new_at (by simp) _ _).alloc _;have g7:au (((w.alloc (.cells #[E.R] 52)).alloc (.cells (nv x A cp) 24)).alloc (.cells bD 24)) (w.heap.size+1+1) 24 bD:=au.new_at (by simp) _ _;have gb:=(aD.refl h).step gj;(have h4:w.heap.size+3<=(((w.alloc (.cells #[E.R] 52)).alloc (.cells (nv x A cp) 24)).alloc (.cells bD 24)).heap.size:=by simp);have hC:=hC.keep (w':=((w.alloc (.cells #[E.R] 52)).alloc (.cells (nv x A cp) 24)).alloc (.cells bD 24)) (fun b _ M=>gj.block b M);clear gj;(go_enter Tryz.func190,Tryz.ntmps190);(go_upto_region 1 with fail);change Code.wp _ _ _ _ (((w.alloc (.cells #[E.R] 52)).alloc (.cells (nv x A cp) 24)).alloc (.cells bD 24));generalize((w.alloc (.cells #[E.R] 52)).alloc (.cells (nv x A cp) 24)).alloc (.cells bD 24)=w1 at *;have c0:=AU gl;(go_wp2_with fail);cases hA:aP E.c s ⟨#[123]⟩with
 |false=>refine(eJ E s _ _ gb.rd hA).mono ?_;rintro e N⟨rfl,ho⟩;unfold al;exact⟨rfl,oC (by rw[<-gd.out,need];simp[hA]) gb.gr (ak _ ho)⟩
 | true=>
  have HE:=hid (show(ce (aX F.expr ⟨#[125]⟩ F.g []) E.c (adv s)).bind (fun l s2=>.ok (.mk 24 ⟨#[]⟩ (x::l) x.pos) s2)=res by rw[<-gd.out,need];simp only[hA,kJ,bH.bind_ok]);refine(dA E s _ _ gb.rd hA).mono ?_;rintro e N⟨rfl,J⟩;have ha:=gl.grown J.gr;have gt:=gu.grown J.gr;have g6:=g7.grown J.gr;have gy:=gb.trans J;have h3:=J.gr.size;have hC:=hC.keep (w':=N) (am.of_grown (X:=fun b=>w0.heap.size<=b/\b<w.heap.size) J.gr).block;clear gd hA gl gu g7 gb J c0;obtain⟨x0,x1,x2,x3,-,-,-,-⟩:=ag gt;(go_wp2_with fail);refine(aN _ _ _ _ _ ⟨_,_,_,rfl⟩).mono ?_;rintro e U⟨rfl,ge⟩;have I:Below N N U:=((gG _ N).alloc (d5 _) _).trans (ge.mono (by simp));have g2:=(au.new N 24 (nv x A cp)).below ge (by simp);have g9:=ha.bl I;have g5:=g6.bl I;have gx:=gy.step I;(have h2:N.heap.size+1<=U.heap.size:=by have:=ge.size;simp at this;omega);have hC:=hC.keep (w':=U) (fun b _ M=>I.block b M);clear ge I ha g6 gt gy x0 x1 x2 x3;(go_upto_region 3 with fail);have D:=(aH U #[.int .i64 24,.string ⟨#[]⟩,.slice (some ⟨N,0,none⟩) 1 1,.int .i64 x.pos]).1;have gk:=au.new U 24 #[.int .i64 24,.string ⟨#[]⟩,.slice (some ⟨N,0,none⟩) 1 1,.int .i64 x.pos];have g1:=g2.bl D;have g8:=g9.bl D;have g4:=g5.bl D;have gh:=gx.step D;have hC:=hC.keep (w':=U.alloc (.cells #[.int .i64 24,.string ⟨#[]⟩,.slice (some ⟨N,0,none⟩) 1 1,.int .i64 x.pos] 24)) (fun b _ M=>D.block b M);(have h1:U.heap.size+1<=(U.alloc (.cells #[.int .i64 24,.string ⟨#[]⟩,.slice (some ⟨N,0,none⟩) 1 1,.int .i64 x.pos] 24)).heap.size:=by simp);clear g2 g9 g5 gx D;generalize hKK:N.heap.size=K at *;generalize hOO:U.heap.size=O at *;change Code.wp _ _ _ _ (U.alloc (.cells #[.int .i64 24,.string ⟨#[]⟩,.slice (some ⟨K,0,none⟩) 1 1,.int .i64 x.pos] 24));generalize U.alloc (.cells #[.int .i64 24,.string ⟨#[]⟩,.slice (some ⟨K,0,none⟩) 1 1,.int .i64 x.pos] 24)=w6 at *;clear hKK hOO;(have gz:K≠O:=by omega);(have hq:K≠E.R:=by omega);(have hp:O≠E.R:=by omega);(have gv:O≠w.heap.size+1+1:=by omega);(have g0:K≠w.heap.size+1+1:=by omega);have he:Hid (tN E 224 (#[] ++ #[.pointer (some ⟨w,0,none⟩)]) (aX F.expr ⟨#[125]⟩ F.g []) w6.drew):=hid (Dv E F hF w.heap.size w6.drew (show w6.drew.cell? ⟨w,0,none⟩=_ from AU g8) (by omega));(have gi:∀a w,(callFunc 224 a).run Tryz.prog w=.ok (.enter 224 a) w:=fun a w=>by kernel_rfl);have hf:=hid gi;clear gi;have c0:=AU g8;obtain⟨x0,x1,x2,x3,gq,gp,gn,gm⟩:=ag gk;cases hQ:ce (aX F.expr ⟨#[125]⟩ F.g []) E.c (adv s)with
  |out=>exact absurd HE.out.symm (by rw[hQ];exact hw.out)
  |fail q=>have HF:Hid (res=.fail q):=hid (by rw[<-HE.out,hQ];rfl);let SS:World->Prop:=fun w'=>w'.cell? ⟨O,2,none⟩=some (.slice (some ⟨K,0,none⟩) 1 1)/\w'.cell? ⟨w,0,none⟩=some (.pointer (some ⟨E.R,0,none⟩));have hu:SS w6.drew:=⟨x2,c0⟩;(refine gZ (S:=SS) (by kernel_rfl) hu ?_;intro gg;refine dL 0 gg ?_;refine dL 1 gg ?_;refine dL 2 gg ?_;refine dL 3 gg ?_;refine tM 4 fun K hK=>?_;go_simp);refine(lm E 224 #[] #[w] (aX F.expr ⟨#[125]⟩ F.g []) (adv s) _ gh.drew.rd hf.out he.out (by rw[hQ];exact nofun)).mono ?_;rw[hQ];rintro e w7⟨rfl,hn⟩;unfold al;exact⟨rfl,oC HF.out gh.drew.gr hn⟩
  | ok l s2=>
   have HF:Hid (res=.ok (.mk 24 ⟨#[]⟩ (x::l) x.pos) s2):=hid (by rw[<-HE.out,hQ];rfl);have h5:=pO hQ;have HC:=hid (lm E 224 #[] #[w] (aX F.expr ⟨#[125]⟩ F.g []) (adv s) _ gh.drew.rd hf.out he.out (by rw[hQ];exact nofun));rw[hQ]at HC;obtain⟨i0,hi,hj,hh,hg⟩:=qH pF;clear HE hQ;go_region_law (first
    |(refine fC _ (by rfl) (.tmp 14) (.tmp 17) 22 (by rfl) K 24 i0 _ 4 56 Tryz.underlying22 hi hj hh hg (by rfl) (by omega) (.slice (some ⟨K,0,none⟩) 1 1) 1 [.int .i64 x.kind,.string x.text,.slice A x.kids.length cp,.int .i64 x.pos] (by rfl) (o6 ht (d5 _)) w7.heap.size A7 l.length c7 ys (by rfl) (oD hm (by omega)) (lq gs) (by unfold maxLen;omega) (by omega) (by omega) ?_;intro v8 w8 hown8 hg8 hat8;obtain⟨A8,c8,rfl,h7⟩:=pP hown8;have hr:=gw.grown hg8 (fun e=>gz (by simpa[Value.ownBlock]using e.symm));obtain⟨x0,x1,x2,x3,gq,gp,gn,gm⟩:=ag hr)
    |(go_simp;(go_at_call 185);refine HC.out.mono ?_;rintro e w7⟨⟨v7,rfl,hk⟩,ga⟩;obtain⟨A7,c7,ys,rfl,hz,hm,gs⟩:=hk;have gw:=gk.drew.grown ga.gr (fun e=>hp (by injection e));have ht:=g1.drew.grown ga.gr (fun e=>hq (by injection e));have h0:w6.heap.size<=w7.heap.size:=ga.gr.size;obtain⟨x0,x1,x2,x3,gq,gp,gn,gm⟩:=ag gw))
   all_goals have hN:=LY (G:=w.heap.size+1+1) (u:=.slice A8 (1+l.length) c8) (o:=2) gh hC hl hR0 (by omega) g1.lt gk.lt (by omega) gz g4.lt (by omega) g0 gv ga gs hown8 hg8 hat8 24 ⟨#[]⟩ x.pos;have g3:=((g4.drew.grown ga.gr).grown hg8 (fun e=>g0 (by simpa[Value.ownBlock]using e.symm))).far (p:=⟨O,2,none⟩) (by exact gv.symm) (.slice A8 (1+l.length) c8);obtain⟨d0,d1,d2,d3,e0,e1,e2,e3⟩:=ag g3;(go_wp2_with fail);refine m8 HF.out hN.1 hN.2 g3 (by omega) (by omega) ?_ rfl (by rfl) rfl;intro b hb;exact⟨hb.1,hb.2.1⟩
theorem ya(E:co)(F:fJ)(hF:oy E F)(types:Bool)(w:World)(s:St)(h:aR E w s)(gs:ir F types E.c s≠.out):
  Calls Tryz.prog 223 #[E.R,.bool types] w (mK E w (ir F types E.c s)):=by
 generalize D:ir F types E.c s=res at *;have M:=hid (show(F.typ E.c s).bind (fun t s1=>if types&&ll E.c s1 then .ok t s1 else da F t E.c s1)=res from D);have gi:=hid gs;have ge:=h.lt;clear D gs;have O:=(aD.refl h).alloc (.cells bD 24);have gx:=au.new w 24 bD;(have g5:w.heap.size+1<=(w.alloc (.cells bD 24)).heap.size:=by simp);(go_enter Tryz.func223,Tryz.ntmps223);(go_wp2_with fail);change Calls _ _ _ (w.alloc (.cells bD 24)) _;cases hP:F.typ E.c s with
 |out=>exact absurd M.out.symm (by rw[hP];exact gi.out)
 |fail q=>refine(hF.typ _ s O.rd (by rw[hP];exact nofun)).mono ?_;rw[hP];rintro e w3⟨rfl,gy⟩;unfold al;exact⟨rfl,ah (by rw[<-M.out,hP];rfl) O.gr gy⟩
 | ok n s1=>
  have U:=hid (show(if types&&ll E.c s1 then .ok n s1 else da F n E.c s1)=res by rw[<-M.out,hP];rfl);refine(hF.typ _ s O.rd (by rw[hP];exact nofun)).mono ?_;rw[hP];rintro e w3⟨⟨v,rfl,hv⟩,gd⟩;obtain⟨A3,c3,rfl,g1⟩:=hv.toC;have gw:=gx.grown gd.gr;have gv:=O.trans gd;have g4:=gd.gr.size;have I:=(aH w3 (nv n A3 c3)).1;have gm:=au.new w3 24 (nv n A3 c3);have N:=gv.step I;have gk:=gw.bl I;have gn:=hv.keep (w':=w3.alloc (.cells (nv n A3 c3) 24)) fun b _ hlt=>I.block b hlt;have gg:=gd.gr.trans (ak (some E.R) I);have g3:=I.size;clear hP M hv g1 gv gw gx gd I;(go_upto_region 2 with fail);change Code.wp _ _ _ _ (w3.alloc (.cells (nv n A3 c3) 24));generalize hXX:w3.heap.size=X at *;generalize w3.alloc (.cells (nv n A3 c3) 24)=w4 at *;clear hXX;obtain⟨x0,x1,x2,x3,-,-,-,-⟩:=ag gm;obtain⟨d0,d1,d2,d3,e0,e1,e2,e3⟩:=ag gk;cases types with
  |false=>
   have HF:Hid (da F n E.c s1=res):=hid U.out;clear U d0 d1 d2 d3 e0 e1 e2 e3;(go_wp2_with fail);refine(uC E F hF (w.alloc (.cells bD 24)) w4 s1 n _ O.rd.lt gg N.rd gn (by rw[HF.out];exact gi.out)).mono ?_;rw[HF.out];unfold uB;cases D:res with
   |out=>exact absurd D gi.out
   |fail p=>rintro e w6⟨rfl,gl⟩;unfold al;exact⟨rfl,ah (by first|rfl|exact D) N.gr gl⟩
   |ok n5 s5=>rintro e w6⟨⟨v6,rfl,ga⟩,gb⟩;obtain⟨A6,c6,rfl,g0⟩:=ga.toC;have gh:=gk.grown gb.gr;have gp:=N.trans gb;obtain⟨d0,d1,d2,d3,e0,e1,e2,e3⟩:=ag gh;(go_wp2_with fail);refine aB (by first|rfl|exact D) ga gp gh (d5 _) ge ?_ rfl (by rfl) rfl;intro b hb;constructor<;>omega
  | true=>
   (go_wp2_with fail);refine(wH E s1 _ N.rd).mono ?_;rintro e w5⟨rfl,J⟩;have gq:=gk.bl J.bel;have gz:=gm.bl J.bel;have gj:=N.trans J.moved;have gu:=gn.keep (w':=w5) fun b _ hlt=>J.bel.block b hlt;have gt:=gg.trans (ak (some E.R) J.bel);have g2:=J.bel.size;clear x0 x1 x2 x3 d0 d1 d2 d3 e0 e1 e2 e3 gk gm N gn gg J;obtain⟨x0,x1,x2,x3,-,-,-,-⟩:=ag gz;cases hE:ll E.c s1 with
   |true=>have HF:Hid (res=.ok n s1):=hid (by rw[<-U.out,hE];rfl);obtain⟨d0,d1,d2,d3,e0,e1,e2,e3⟩:=ag gq;clear U hE;(go_wp2_with fail);refine aB HF.out gu gj gq (d5 _) ge ?_ rfl (by rfl) rfl;intro b hb;constructor<;>omega
   |false=>
    have HF:Hid (da F n E.c s1=res):=hid (by rw[<-U.out,hE];rfl);clear U hE;(go_wp2_with fail);refine(uC E F hF (w.alloc (.cells bD 24)) w5 s1 n _ O.rd.lt gt gj.rd gu (by rw[HF.out];exact gi.out)).mono ?_;rw[HF.out];unfold uB;cases D:res with
    |out=>exact absurd D gi.out
    |fail p=>rintro e w6⟨rfl,gl⟩;unfold al;exact⟨rfl,ah (by first|rfl|exact D) gj.gr gl⟩
    |ok n5 s5=>rintro e w6⟨⟨v6,rfl,ga⟩,gb⟩;obtain⟨A6,c6,rfl,g0⟩:=ga.toC;have gh:=gq.grown gb.gr;have gp:=gj.trans gb;obtain⟨d0,d1,d2,d3,e0,e1,e2,e3⟩:=ag gh;(go_wp2_with fail);refine aB (by first|rfl|exact D) ga gp gh (d5 _) ge ?_ rfl (by rfl) rfl;intro b hb;constructor<;>omega
end
section
open Go.RowKit Go.Lib Go.Proofs
attribute [local go_sem ↓] Go.wp_at_zero Go.wp_at_succ
attribute [local go_sem] aS aT aU
theorem mm{E:co}{s:St}{w w':World}(h:aR E w s)(D:w.grownBy w' (some E.R))(h':aR E w' s):Below w w w':=
 ⟨D.os,D.tape,D.output,D.size,fun b hb=>by
  by_cases e:b=E.R
  ·subst e;exact Eq.trans (show w'.heap[E.R]? = _ from h'.blk) (show w.heap[E.R]? = _ from h.blk).symm
  ·exact D.block b hb (fun e'=>e (by injection e'))⟩
theorem sZ(E:co)(s:St)(n:Nat)(D:n<=E.c.toks.length)(K B:Nat)(w:World)(h:aR E w s)(k0:w.cell? ⟨K,0,none⟩=some (.int .i64 (n:Int)))(b0:w.cell? ⟨B,0,none⟩=some (.pointer (some ⟨E.R,0,none⟩))):
  CallsD Tryz.prog 240 #[K,B] .returning w fun e u' w'=>u'=.returning/\(e=.returned (.tuple #[])/\aD E { s with at_:=n } w w'):=by obtain⟨c0,c1,-,-,-,cf⟩:=h.cells;have I:=h.lt;have f1:=cf 1;have J:=(aD.refl h).setAt n D;clear h;(go_enter_d Tryz.func240,Tryz.ntmps240);(go_wp2_with fail);exact⟨rfl,_,qk rfl _ _ _,rfl,J⟩
theorem E1(E:co)(s:St)(w:World)(h:aR E w s):Calls Tryz.prog 237 #[E.R] w fun e w'=>e=.returned (.bool (lC E.c s))/\Below w w w':=by
 have hj:∀(fn:Fn)(first cap:Array Value)(w:World),(Instr.makeFunc fn first cap).run Tryz.prog w=.ok (.func fn first cap) w:=fun _ _ _ _=>rfl;have g9:=h.most;have hg:=h.lt;have H:=hid h;have ge:Below w w (w.alloc (.cells #[E.R] 52)):=(gG _ _).alloc (d5 _) _;have gp:=au.new w 52 #[E.R];have h0:=h.alloc (.cells #[E.R] 52);(have gq:w.heap.size+1=(w.alloc (.cells #[E.R] 52)).heap.size:=by simp);have b0:=bg gp;obtain⟨c0,c1,-,-,-,-⟩:=h0.cells;have g2:IntKind.i64.wrap ((s.at_:Int)+2)=(s.at_:Int)+2:=gO _ (by have:=h.le;omega);have g1:IntKind.i64.wrap ((s.at_:Int)+1)=(s.at_:Int)+1:=gO _ (by have:=h.le;omega);by_cases hA:s.at_+2<E.c.toks.length
 case neg=>(have hN:lC E.c s=false:=by unfold lC;rw[jD hA];rfl);rw[hN];(have g3:decide ((s.at_:Int)+2>=(E.c.toks.length:Int))=true:=by rw[gS];omega);(have hf:(E.c.toks.length:Int)<=(s.at_:Int)+2:=by omega);clear hN H h h0;(go_enter_defers Tryz.func237,Tryz.ntmps237);(go_wp2_with fail);go_quiet (fail);(go_wp2_with fail);simp[bodyPostD,Leaves,results,Tryz.results237,go_sem];exact bC ge nq
 obtain⟨b,off,eA,hk,t0,t1,t2⟩:=h0.tok (s.at_+1) (by omega);rw[eA]at c0;(have g3:decide ((s.at_:Int)+2>=(E.c.toks.length:Int))=false:=by rw[gK];omega);(have hf:¬ ((E.c.toks.length:Int)<=(s.at_:Int)+2):=by omega);(have g4:(0:Int)<=(s.at_:Int)+1:=by omega);(have g5:(s.at_:Int)+1<(E.c.toks.length:Int):=by omega);(have g6:((s.at_:Int)+1).toNat=s.at_+1:=by omega);by_cases hK:(ar E.c (s.at_+1)).kind=1
 case neg=>(have hN:lC E.c s=false:=by unfold lC;rw[kN hA,beq_eq_false_iff_ne.2 hK];rfl);rw[hN];(have g7:((ar E.c (s.at_+1)).kind != 1)=true:=by rw[kU];exact hK);(have g8:((ar E.c (s.at_+1)).kind==1)=false:=by rw[gF];exact hK);generalize ar E.c (s.at_+1)=tk at *;clear hN H h h0;(go_enter_defers Tryz.func237,Tryz.ntmps237);(go_wp2_with fail);go_quiet (fail);(go_wp2_with fail);simp[bodyPostD,Leaves,results,Tryz.results237,go_sem];exact bC ge nq
 (have g7:((ar E.c (s.at_+1)).kind != 1)=false:=by rw[hK];rfl);(have g8:((ar E.c (s.at_+1)).kind==1)=true:=by rw[hK];rfl);(have hN:lC E.c s=((ar E.c (s.at_+2)).kind==1||(aP E.c { s with at_:=s.at_+2 } (⟨#[102,117,110,99]⟩:BA)||(aP E.c { s with at_:=s.at_+2 } (⟨#[40]⟩:BA)||dp E.c { s with at_:=s.at_+2 }))):=by unfold lC;rw[kN hA,g8];rfl);rw[hN];clear hN;generalize ar E.c (s.at_+1)=tk at *;generalize hq:({ s with at_:=s.at_+2 }:St)=q at *;have D:=hid hq;(have gz:q.at_=s.at_+2:=by rw[<-hq]);clear hq;(go_enter_defers Tryz.func237,Tryz.ntmps237);(go_wp2_with fail);go_quiet (fail);have gn:=gp.drewN nq;have gi:=((aD.refl H.out).alloc (.cells #[E.R] 52)).drewN nq;have hi:w.heap.size+1=((w.alloc (.cells #[E.R] 52)).drewN nq).heap.size:=gq;(have J:s.at_<=E.c.toks.length:=by omega);clear h h0 b0 c0 c1 t0 t1 t2 ge gq gp;generalize(w.alloc (.cells #[E.R] 52)).drewN nq=w1 at *;have b1:=bg gn;obtain⟨-,c1,-,-,-,-⟩:=gi.rd.cells;(go_upto_region 4 with fail);have gm:=gn.alloc (.cells #[.int .i64 (s.at_:Int)] 3);have gw:=au.new w1 3 #[.int .i64 (s.at_:Int)];have gh:=gi.alloc (.cells #[.int .i64 (s.at_:Int)] 3);(have hh:w1.heap.size+1=(w1.alloc (.cells #[.int .i64 (s.at_:Int)] 3)).heap.size:=by simp);clear b1 c1 gn gi;change Code.wp _ _ _ _ (w1.alloc (.cells #[.int .i64 (s.at_:Int)] 3));generalize hKK:w1.heap.size=K at *;generalize w1.alloc (.cells #[.int .i64 (s.at_:Int)] 3)=w2 at *;clear hKK;have b2:=bg gm;obtain⟨-,c1,-,-,-,cf⟩:=gh.rd.cells;have f1:=cf 1;have gy:=gm.far (p:=⟨E.R,1,none⟩) (by show w.heap.size≠E.R;omega) (.int .i64 ((s.at_:Int)+2));have he:=gw.far (p:=⟨E.R,1,none⟩) (by show K≠E.R;omega) (.int .i64 ((s.at_:Int)+2));have gg:=gh.setAt (s.at_+2) (by omega);rw[show((s.at_+2:Nat):Int)=(s.at_:Int)+2 from rfl,D.out]at gg;have b3:=bg gy;(go_upto_region 6 with fail);generalize w2.setCell ⟨E.R,1,none⟩ (.int .i64 ((s.at_:Int)+2))=w3 at *;clear c1 cf f1 b2 gm gw gh;(go_wp2_with fail);refine(bL E q w3 gg.rd).mono ?_;unfold it;rw[gz];rintro e w4⟨rfl,U⟩;have gl:=gy.bl U;have gv:=he.bl U;have gd:=gg.step U;have b4:=bg gl;clear b3;cases h1:((ar E.c (s.at_+2)).kind==1)with
 |true=>clear U;(go_wp2_with fail);refine kT (f:=240) (args:=#[K,w]) (by simp) (by simp[go_sem]) ?_;refine(sZ E q s.at_ J K w.heap.size _ gd.rd (bg gv) (bg gl)).mono ?_;rintro e u' w10⟨rfl,rfl,I⟩;simp[Leaves,settle,results,Tryz.results237,go_sem];exact⟨.inl (beq_iff_eq.1 h1),mm H.out (gd.gr.trans I.gr) (by have:=I.rd;rw[<-D.out]at this;exact this)⟩
 | false=>
  (go_wp2_with fail);refine(bW E q ⟨#[102,117,110,99]⟩ w4 gd.rd).mono ?_;rintro e w5⟨rfl,O⟩;have gk:=gl.bl O;have gu:=gv.bl O;have gb:=gd.step O;have b5:=bg gk;clear b4;cases h2:aP E.c q ⟨#[102,117,110,99]⟩with
  |true=>clear O;(go_wp2_with fail);refine kT (f:=240) (args:=#[K,w]) (by simp) (by simp[go_sem]) ?_;refine(sZ E q s.at_ J K w.heap.size _ gb.rd (bg gu) (bg gk)).mono ?_;rintro e u' w10⟨rfl,rfl,I⟩;simp[Leaves,settle,results,Tryz.results237,go_sem];exact⟨.inr (.inl h2),mm H.out (gb.gr.trans I.gr) (by have:=I.rd;rw[<-D.out]at this;exact this)⟩
  |false=>
   (go_wp2_with fail);refine(bW E q ⟨#[40]⟩ w5 gb.rd).mono ?_;rintro e w6⟨rfl,N⟩;have gj:=gk.bl N;have gt:=gu.bl N;have ga:=gb.step N;have b6:=bg gj;clear b5;cases h3:aP E.c q ⟨#[40]⟩with
   |true=>clear N;(go_wp2_with fail);refine kT (f:=240) (args:=#[K,w]) (by simp) (by simp[go_sem]) ?_;refine(sZ E q s.at_ J K w.heap.size _ ga.rd (bg gt) (bg gj)).mono ?_;rintro e u' w10⟨rfl,rfl,I⟩;simp[Leaves,settle,results,Tryz.results237,go_sem];exact⟨.inr (.inr (.inl h3)),mm H.out (ga.gr.trans I.gr) (by have:=I.rd;rw[<-D.out]at this;exact this)⟩
   |false=>(go_wp2_with fail);refine(ri E q w6 ga.rd).mono ?_;rintro e w7⟨rfl,g0⟩;have M:=g0.bel;have gx:=gj.bl M;have ha:=gt.bl M;have gs:=ga.step M;have b7:=bg gx;clear b6;clear M;(go_wp2_with fail);refine kT (f:=240) (args:=#[K,w]) (by simp) (by simp[go_sem]) ?_;refine(sZ E q s.at_ J K w.heap.size _ gs.rd (bg ha) (bg gx)).mono ?_;rintro e u' w10⟨rfl,rfl,I⟩;simp[Leaves,settle,results,Tryz.results237,go_sem];exact⟨by rw[h1,h2,h3];rfl,mm H.out (gs.gr.trans I.gr) (by have:=I.rd;rw[<-D.out]at this;exact this)⟩
end
section
open Go.RowKit Go.Lib Go.Proofs
attribute [local go_sem ↓] Go.wp_at_zero Go.wp_at_succ
attribute [local go_sem] aS aT aU bu bv bw bz
theorem LZ{F:fJ}{p:Int}{c:Cx}{s s1:St}{sg:Nd}(h:oR F p c s=.ok sg s1):∃a r,sg=.mk 12 ⟨#[]⟩ [a,r] p:=by
 unfold oR at h;cases J:need ⟨#[40]⟩ c s with
 |out=>rw[J]at h;cases h
 |fail q=>rw[J]at h;cases h
 | ok u s2=>
  rw[J]at h;change ((aX (eG F) ⟨#[41]⟩ F.g [] c s2).bind fun l s2=>(dg F c s2).bind fun r s3=>.ok (.mk 12 ⟨#[]⟩ [.mk 6 ⟨#[]⟩ l (av c s),r] p) s3)=.ok sg s1 at h;cases I:aX (eG F) ⟨#[41]⟩ F.g [] c s2 with
  |out=>rw[I]at h;cases h
  |fail q=>rw[I]at h;cases h
  |ok l s3=>
   rw[I]at h;change ((dg F c s3).bind fun r s3=>.ok (.mk 12 ⟨#[]⟩ [.mk 6 ⟨#[]⟩ l (av c s),r] p) s3)=.ok sg s1 at h;cases D:dg F c s3 with
   |out=>rw[D]at h;cases h
   |fail q=>rw[D]at h;cases h
   |ok r s4=>rw[D]at h;change bH.ok (Nd.mk 12 ⟨#[]⟩ [.mk 6 ⟨#[]⟩ l (av c s),r] p) s4=.ok sg s1 at h;injection h with h _;exact⟨_,_,h.symm⟩
theorem rp{w:World}{P:Nat}{t:TypeId}{a b c d:Value}(h:au w P t #[a,b,c,d]):w.cell? ⟨P,0,none⟩=some a/\w.cell? ⟨P,1,none⟩=some b/\w.cell? ⟨P,2,none⟩=some c/\w.cell? ⟨P,3,none⟩=some d:=
 ⟨(h.cell 0).trans rfl,(h.cell 1).trans rfl,(h.cell 2).trans rfl,(h.cell 3).trans rfl⟩
def Lf(types nb:Bool)(c:Cx)(s:St):Bool:=types&&(!nb&&(decide (s.at_+1<c.toks.length) && !((ar c (s.at_+1)).text.toList==[41])))
theorem ta(E:co)(F:fJ)(hF:oy E F)(p:Int)(types:Bool)(w:World)(s:St)(h:aR E w s)(hg:du F p types E.c s≠.out):
  Calls Tryz.prog 222 #[E.R,.int .i64 p,.bool types] w (mK E w (du F p types E.c s)):=by
 generalize hres:du F p types E.c s=res at *;have gs:=hid hg;have gl:=h.lt;have hw:=h.most;have jg:=h.le;(have hk:(⟨#[41]⟩:BA).toList=[41]:=by decide +kernel);have gd:=hid (show(if Lf types (lC E.c s) E.c s=true then(dD F p E.c s).bind fun t s1=>if ll E.c s1 then .ok t s1 else .fail (av E.c s1)
   else(oR F p E.c s).bind fun sg s1=>if types=true/\(sg.kids.headD bU).kids.length=0/\ll E.c s1=true then .ok sg s1
   else(bE F E.c s1).bind fun b s2=>.ok (.mk 25 ⟨#[]⟩ [sg,b] p) s2)=res by rw[<-hres,du];(have e:(Lf types (lC E.c s) E.c s=true)=(types=true/\lC E.c s=false/\s.at_+1<E.c.toks.length/\(ar E.c (s.at_+1)).text≠(⟨#[41]⟩:BA)):=by unfold Lf;rw[<-hk,dF];simp);simp only[e])
 clear hres hg;have hj:=hid (fun W(hr:aR E W s)=>E1 E s W hr);generalize hnb:lC E.c s=nb at *;clear hnb;have gb:=(aD.refl h).alloc (.cells bD 24);have ha:=au.new w 24 bD;(have jf:w.heap.size+1<=(w.alloc (.cells bD 24)).heap.size:=by simp);(go_enter Tryz.func222,Tryz.ntmps222);(go_upto_region 1 with fail);change Code.wp _ _ _ _ (w.alloc (.cells bD 24));generalize w.alloc (.cells bD 24)=w1 at *;go_cut [42] (fun hp wx=>hp=.bool (Lf types nb E.c s)/\Below w1 w1 wx)
 case first=>
  clear gd gs ha;have HN:=hid (fun W(hb:Below w1 w1 W)=>hj.out W (gb.rd.below hb));have g4:IntKind.i64.wrap ((s.at_:Int)+1)=(s.at_:Int)+1:=gO _ (by omega);have k1:∀n:Wd (Below w1 w1),n.wd.cell? ⟨E.R,1,none⟩=some (.int .i64 s.at_):=fun n=>(gb.rd.below n.ok).cells.2.1;have k0:∀n:Wd (Below w1 w1),n.wd.cell? ⟨E.R,0,none⟩=some (.slice E.A E.c.toks.length E.cap):=fun n=>(gb.rd.below n.ok).cells.1;cases types with
  |false=>have M:Hid (Lf false nb E.c s=false):=hid rfl;refine cQ w1 ?_;(repeat(go_big_quiet_step (fail)));refine jS ?_;intro n;(go_wp2_with fail);go_meet;exact⟨jH Value.bool M.out.symm,n.ok⟩
  | true=>
   cases nb with
   |true=>have M:Hid (Lf true true E.c s=false):=hid rfl;refine cQ w1 ?_;(repeat(go_big_quiet_step ((go_at_call 237;rename_i n;refine(HN.out n.wd n.ok).mono ?_;rintro e w'⟨rfl,hb⟩;exact⟨rfl,⟨w',a8 n.ok hb⟩,rfl⟩))));refine jS ?_;intro n;(go_wp2_with fail);go_meet;exact⟨jH Value.bool M.out.symm,n.ok⟩
   |false=>
    by_cases I:s.at_+1<E.c.toks.length
    case neg=>have M:Hid (Lf true false E.c s=false):=hid (by unfold Lf;rw[jD I];rfl);(have g1:decide ((s.at_:Int)+1<(E.c.toks.length:Int))=false:=by rw[gK];omega);refine cQ w1 ?_;(repeat(go_big_quiet_step ((go_at_call 237;rename_i n;refine(HN.out n.wd n.ok).mono ?_;rintro e w'⟨rfl,hb⟩;exact⟨rfl,⟨w',a8 n.ok hb⟩,rfl⟩))));refine jS ?_;intro n;(go_wp2_with fail);go_meet;exact⟨jH Value.bool M.out.symm,n.ok⟩
    case pos=>clear k0;obtain⟨b,off,hS⟩:=Ln gb.rd I;(have g1:decide ((s.at_:Int)+1<(E.c.toks.length:Int))=true:=by rw[gS];omega);(have g2:(0:Int)<=(s.at_:Int)+1:=by omega);(have g3:(s.at_:Int)+1<(E.c.toks.length:Int):=by omega);(have g5:((s.at_:Int)+1).toNat=s.at_+1:=by omega);have M:=(show Lf true false E.c s = !((ar E.c (s.at_+1)).text.toList==[41])by unfold Lf;rw[kN I];rfl);generalize Lf true false E.c s=vv at *;generalize ar E.c (s.at_+1)=t at *;obtain⟨tk,tt,tp⟩:=t;simp only at *;have k0:∀n:Wd (Below w1 w1),n.wd.cell? ⟨E.R,0,none⟩=some (.slice (some ⟨b,off,none⟩) E.c.toks.length E.cap):=fun n=>(hS _ (gb.rd.below n.ok)).1;have k3:∀n:Wd (Below w1 w1),n.wd.cell? ⟨b,off+(s.at_+1)*3+1,none⟩=some (.string tt):=fun n=>(hS _ (gb.rd.below n.ok)).2.2.2;clear hS;cases h1:(tt.toList==[41]);all_goals have h2:(tt.toList != [41]) = !(tt.toList==[41]):=rfl;rw[h1]at h2 M;have M:=hid M;refine cQ w1 ?_;(repeat(go_big_quiet_step ((go_at_call 237;rename_i n;refine(HN.out n.wd n.ok).mono ?_;rintro e w'⟨rfl,hb⟩;exact⟨rfl,⟨w',a8 n.ok hb⟩,rfl⟩))));refine jS ?_;intro n;(go_wp2_with fail);go_meet;exact⟨jH Value.bool M.out.symm,n.ok⟩
 case rest=>
  obtain⟨rfl,gw⟩:=hcut;have J:=gb.step gw;have g6:=ha.bl gw;have je:=gw.size;generalize wc=w2 at *;clear hj gb ha gw;cases gu:Lf types nb E.c s with
  | true=>
   have HE:=hid (show((dD F p E.c s).bind fun t s1=>if ll E.c s1 then .ok t s1 else .fail (av E.c s1))=res by rw[<-gd.out,gE gu]);clear gd gu;(go_wp2_with fail);cases hP:dD F p E.c s with
   |out=>exact absurd HE.out.symm (by rw[hP];exact gs.out)
   |fail q=>refine(oT E F hF p _ s J.rd (by rw[hP];exact nofun)).mono ?_;rw[hP];rintro e w3⟨rfl,g7⟩;unfold al;exact⟨rfl,ah (by rw[<-HE.out,hP];rfl) J.gr g7⟩
   |ok n s1=>
    have U:=hid (show(if ll E.c s1 then .ok n s1 else .fail (av E.c s1))=res by rw[<-HE.out,hP];rfl);refine(oT E F hF p _ s J.rd (by rw[hP];exact nofun)).mono ?_;rw[hP];rintro e w3⟨⟨v,rfl,M⟩,N⟩;obtain⟨A3,c3,rfl,he⟩:=M.toC;have gq:=g6.grown N.gr;have gn:=J.trans N;have hu:=N.gr.size;have D:=(aH w3 (nv n A3 c3)).1;have gk:=au.new w3 24 (nv n A3 c3);have ge:=gn.step D;have gp:=gq.bl D;have gm:=M.keep (w':=w3.alloc (.cells (nv n A3 c3) 24)) fun b _ I=>D.block b I;clear hP HE M he gn gq g6 N D J;(go_upto_region 3 with fail);change Code.wp _ _ _ _ (w3.alloc (.cells (nv n A3 c3) 24));generalize hXX:w3.heap.size=X at *;generalize w3.alloc (.cells (nv n A3 c3) 24)=w4 at *;(go_wp2_with fail);refine(wH E s1 _ ge.rd).mono ?_;rintro e w5⟨rfl,ga⟩;have gg:=gp.bl ga.bel;have gj:=gk.bl ga.bel;have O:=ge.trans ga.moved;have gz:=gm.keep (w':=w5) fun b _ I=>ga.bel.block b I;have ht:=ga.bel.size;clear gp gk ge gm ga;cases hE:ll E.c s1 with
    |true=>have HF:Hid (res=.ok n s1):=hid (by rw[<-U.out,hE];rfl);clear U hE;obtain⟨x0,x1,x2,x3,-,-,-,-⟩:=ag gj;obtain⟨d0,d1,d2,d3,e0,e1,e2,e3⟩:=ag gg;(go_wp2_with fail);refine aB HF.out gz O gg (d5 _) gl ?_ rfl (by rfl) rfl;intro b hb;constructor<;>omega
    |false=>(go_wp2_with fail);refine(eE E s1 _ O.rd).mono ?_;rintro e w6⟨rfl,h0⟩;unfold al;exact⟨rfl,ah (by rw[<-U.out,hE];rfl) O.gr (ak _ h0)⟩
  | false=>
   have HE:=hid (show((oR F p E.c s).bind fun sg s1=>if types=true/\(sg.kids.headD bU).kids.length=0/\ll E.c s1=true then .ok sg s1
    else(bE F E.c s1).bind fun b s2=>.ok (.mk 25 ⟨#[]⟩ [sg,b] p) s2)=res by rw[<-gd.out,gA (by rw[gu];decide)])
   clear gd gu;(go_wp2_with fail);cases hP:oR F p E.c s with
   |out=>exact absurd HE.out.symm (by rw[hP];exact gs.out)
   |fail q=>refine(mg E F hF p _ s J.rd (by rw[hP];exact nofun)).mono ?_;rw[hP];rintro e w3⟨rfl,g7⟩;unfold al;exact⟨rfl,ah (by rw[<-HE.out,hP];rfl) J.gr g7⟩
   | ok sg s1=>
    obtain⟨pr,rs,rfl⟩:=LZ hP;have U:=hid (show(if types=true/\pr.kids.length=0/\ll E.c s1=true then .ok (.mk 12 ⟨#[]⟩ [pr,rs] p) s1
     else(bE F E.c s1).bind fun b s2=>.ok (.mk 25 ⟨#[]⟩ [.mk 12 ⟨#[]⟩ [pr,rs] p,b] p) s2)=res by rw[<-HE.out,hP];rfl)
    refine(mg E F hF p _ s J.rd (by rw[hP];exact nofun)).mono ?_;rw[hP];rintro e w3⟨⟨v,rfl,M⟩,N⟩;obtain⟨A3,c3,rfl,he⟩:=M.toC;change aq _ _ (.agg #[.int .i64 12,.string ⟨#[]⟩,.slice A3 2 c3,.int .i64 p]) _ at M;obtain⟨kb,ko,kA,kc,rfl,jh,ja,-,-,k2,-,-⟩:=(aq.kidsV M).kid 0 (show 0<2 by decide);change w3.cell? ⟨kb,ko+0*4+2,none⟩=some (.slice kA pr.kids.length kc)at k2;rw[kE,jP]at k2;have gq:=g6.grown N.gr;have gn:=J.trans N;have hu:=N.gr.size;have D:Below w3 w3 (w3.alloc (.cells #[.int .i64 12,.string ⟨#[]⟩,.slice (some ⟨kb,ko,none⟩) 2 c3,.int .i64 p] 24)):=(gG _ _).alloc (d5 _) _;have gk:=au.new w3 24 #[.int .i64 12,.string ⟨#[]⟩,.slice (some ⟨kb,ko,none⟩) 2 c3,.int .i64 p];have ge:=gn.step D;have gp:=gq.bl D;have gm:=M.keep (w':=w3.alloc (.cells #[.int .i64 12,.string ⟨#[]⟩,.slice (some ⟨kb,ko,none⟩) 2 c3,.int .i64 p] 24)) fun b _ I=>D.block b I;have hf:=cell_kept D k2;have jd:=D.size;clear hP HE M he gn gq g6 N D J k2;(go_upto_region 7 with fail);change Code.wp _ _ _ _ (w3.alloc (.cells #[.int .i64 12,.string ⟨#[]⟩,.slice (some ⟨kb,ko,none⟩) 2 c3,.int .i64 p] 24));generalize hXX:w3.heap.size=X at *;generalize w3.alloc (.cells #[.int .i64 12,.string ⟨#[]⟩,.slice (some ⟨kb,ko,none⟩) 2 c3,.int .i64 p] 24)=w4 at *;go_cut [68] (fun ho wx=>ho=.bool (decide (types=true/\pr.kids.length=0/\ll E.c s1=true))/\Below w4 w4 wx)
    case first=>
     clear U gs;obtain⟨x0,x1,x2,x3,-,-,-,-⟩:=ag gk;have h8:=hid (wH E s1 _ ge.rd);cases types with
     |false=>(go_wp2_with fail);go_meet;exact⟨jH Value.bool (by simp),gG _ _⟩
     |true=>
      by_cases hz:pr.kids.length=0
      case pos=>rw[hz]at hf;(go_wp2_with fail);refine h8.out.mono ?_;rintro e w5⟨rfl,ga⟩;(go_wp2_with fail);go_meet;exact⟨jH Value.bool (by rw[hz];simp),ga.bel⟩
      case neg=>(have g9:((pr.kids.length:Int)==0)=false:=by rw[gF];omega);(go_wp2_with fail);go_meet;exact⟨jH Value.bool (by rw[eq_comm,gK];exact fun h=>hz h.2.1),gG _ _⟩
    case rest=>
     obtain⟨rfl,gi⟩:=hcut;have gg:=gp.bl gi;have gj:=gk.bl gi;have O:=ge.step gi;have gz:=gm.keep (w':=wc) fun b _ I=>gi.block b I;have ht:=gi.size;clear gp gk ge gm gi hf;by_cases hD:types=true/\pr.kids.length=0/\ll E.c s1=true
     case pos=>have HF:Hid (res=.ok (.mk 12 ⟨#[]⟩ [pr,rs] p) s1):=hid (by rw[<-U.out,gE hD]);rw[kN hD];clear U hD;obtain⟨x0,x1,x2,x3,-,-,-,-⟩:=ag gj;obtain⟨d0,d1,d2,d3,e0,e1,e2,e3⟩:=ag gg;(go_wp2_with fail);refine aB HF.out gz O gg (d5 _) gl ?_ rfl (by rfl) rfl;intro b hb;constructor<;>omega
     case neg=>
      have gt:=hid (show((bE F E.c s1).bind fun b s2=>.ok (.mk 25 ⟨#[]⟩ [.mk 12 ⟨#[]⟩ [pr,rs] p,b] p) s2)=res by rw[<-U.out,gA hD]);rw[jD hD];clear U hD;(go_wp2_with fail);have h6:bK (fun b=>w.heap.size+1<=b) wc (.mk 12 ⟨#[]⟩ [pr,rs] p) [.int .i64 12,.string ⟨#[]⟩,.slice (some ⟨kb,ko,none⟩) 2 c3,.int .i64 p]:=(aq.cells gz).mono (fun b hb _=>by omega);(have gx:X≠w.heap.size:=by omega);(have h3:X≠E.R:=by omega);have s7:=rp gj;have hn:=rp gj.drew;cases hB:bE F E.c s1 with
      |out=>exact absurd gt.out.symm (by rw[hB];exact gs.out)
      |fail q=>have HC:=hid (fun W(hr:aR E W s1)=>dH E F hF W s1 hr (by rw[hB];exact nofun));have HF:Hid (res=.fail q):=hid (by rw[<-gt.out,hB];rfl);rw[hB]at HC;clear gt hB;let SS:World->Prop:=fun w'=>w'.cell? ⟨X,0,none⟩=some (.int .i64 12)/\w'.cell? ⟨X,1,none⟩=some (.string ⟨#[]⟩)/\w'.cell? ⟨X,2,none⟩=some (.slice (some ⟨kb,ko,none⟩) 2 c3)/\w'.cell? ⟨X,3,none⟩=some (.int .i64 p);have h7:SS wc.drew:=s7;(refine gZ (S:=SS) (by kernel_rfl) h7 ?_;intro g8;refine dL 0 g8 ?_;refine dL 1 g8 ?_;refine dL 2 g8 ?_;refine tM 3 fun K hK=>?_;go_simp);refine(HC.out _ O.drew.rd).mono ?_;rintro e w8⟨rfl,hy⟩;unfold al;exact⟨rfl,ah HF.out O.drew.gr hy⟩
      | ok b s2=>
       have HC:=hid (fun W(hr:aR E W s1)=>dH E F hF W s1 hr (by rw[hB];exact nofun));have HF:Hid (res=.ok (.mk 25 ⟨#[]⟩ [.mk 12 ⟨#[]⟩ [pr,rs] p,b] p) s2):=hid (by rw[<-gt.out,hB];rfl);rw[hB]at HC;clear gt hB;go_region_held3 (fun w'=>w'.cell? ⟨X,0,none⟩=some (.int .i64 12)/\w'.cell? ⟨X,1,none⟩=some (.string ⟨#[]⟩)/\w'.cell? ⟨X,2,none⟩=some (.slice (some ⟨kb,ko,none⟩) 2 c3)/\w'.cell? ⟨X,3,none⟩=some (.int .i64 p))
        (first|with_reducible exact s9 _ _ _ _|with_reducible exact hl|with_reducible exact hm _|with_reducible exact s8|with_reducible exact hn|with_reducible exact s7)
        (first
         |(go_at_call 88;refine(HC.out _ O.drew.rd).mono ?_;rintro e w8⟨⟨v,rfl,hq⟩,gh⟩;obtain⟨An,cn,rfl,h5⟩:=hq.toC;have gy:=gj.drew.grown gh.gr (fun e=>h3 (by injection e));have s8:=rp gy;have hm:=fun o:Obj=>rp (gy.alloc o))
         |(go_at_call 64;refine(aN _ _ _ _ _ ⟨_,_,_,rfl⟩).mono ?_;rintro e w9⟨rfl,gv⟩;have hh:=(gy.alloc _).below gv (by have:=gy.lt;simp;omega);have hl:=rp hh;have s9:=fun a b c d:Value=>rp ((((hh.far (p:=⟨w,0,none⟩) (by exact gx) a).far (p:=⟨w,1,none⟩) (by exact gx) b).far (p:=⟨w,2,none⟩) (by exact gx) c).far (p:=⟨w,3,none⟩) (by exact gx) d);have hi:=((gg.drew.grown gh.gr).alloc _).below gv (by have:=(gg.drew.grown gh.gr).lt;simp;omega);obtain⟨g0,g1,g2,g3,k0,k1,k2,k3⟩:=ag hi))
       (all_goals go_wp2_with fail);all_goals have jc:wc.heap.size<=w8.heap.size:=gh.gr.size;have h4:=(h6.keep (w:=wc) (w':=wc.drew) (fun _ _ _=>rfl)).keep (w':=w8) (am.of_grown (X:=fun b=>w.heap.size+1<=b) gh.gr).block;have jb:wc.drew.heap.size=wc.heap.size:=rfl;have hV:=aq.make 2 rfl (an.cons h4 (an.one (h5.mono (Y:=fun b=>w.heap.size+1<=b) fun b hb _=>by omega))) 25 ⟨#[]⟩ p gv;refine aB HF.out hV (((O.drew.trans gh).alloc _).step gv) hi (d5 _) gl ?_ rfl (by rfl) rfl;rintro b(⟨hb,_⟩|rfl)<;>constructor<;>omega
end
section
open Go.RowKit Go.Lib Go.Proofs
structure pA(B:Nat)(X:Nat->Prop)(L:Nat)(w:World)(v:Value)(l:List Nd):Prop where
 out:∃xs,w.ownsRow B 24 4 v l.length xs/\an (fun b=>(X b\/B<=b)/\some b≠v.ownBlock/\b≠L) w l xs
 far:∀g,v.ownBlock=some g->g≠L
section
variable {B L:Nat} {X:Nat->Prop} {w w':World} {v:Value} {l:List Nd}
theorem pA.nil(B:Nat)(X:Nat->Prop)(L:Nat)(w:World):pA B X L w (.slice none 0 0) []:=⟨⟨[],qS _ _ _ _,an.nil⟩,fun g h=>by simp[Value.ownBlock]at h⟩
theorem pA.lt(h:pA B X L w v l):∀g,v.ownBlock=some g->B<=g/\g<w.heap.size:=by obtain⟨xs,D,_⟩:=h.out;exact fun g hg=>D.lt g hg
theorem pA.keep(h:pA B X L w v l)(J:∀b,(X b\/B<=b)->b≠L->b<w.heap.size->w'.heap[b]? = w.heap[b]?):pA B X L w' v l:=by
 obtain⟨xs,N,O⟩:=h.out;refine⟨⟨xs,⟨N.1,?_⟩,O.keep fun b hb D=>J b hb.1 hb.2.2 D⟩,h.far⟩;rcases N.2 with U|⟨g,cap,cur,e,M,I,r⟩
 ·exact .inl U
 ·refine .inr ⟨g,cap,cur,e,M,?_,r⟩;have D:g<w.heap.size:=by
   rcases jZ g w.heap.size with D|hge
   ·exact D
   ·rw[kI hge]at I;cases I
  exact(J g (.inr M) (h.far g (by rw[e];rfl)) D).trans I
theorem pA.values(h:pA B X L w v l):dG (fun b=>X b\/B<=b) w v l:=by
 obtain⟨xs,D,J⟩:=h.out;rcases D.2 with⟨rfl,h0⟩|⟨g,cap,cur,rfl,hg,U,I,_,N,M⟩
 ·exact⟨none,0,xs,by rw[h0],by omega,⟨D.1,fun h=>by omega⟩,J.mono fun b hb _=>hb.1⟩
 ·refine⟨_,cap,xs,rfl,I,⟨D.1,fun _=>⟨g,0,rfl,.inr hg,fun j u hu=>?_⟩⟩,J.mono fun b hb _=>hb.1⟩;(have O:j<l.length*4:=by have:=(List.getElem?_eq_some_iff.1 hu).1;rw[D.1]at this;exact this);rw[kR];unfold World.cell?;rw[U];simp only[qo,gT,jY];rw[<-M,qV O]at hu;rw[<-hu];simp
theorem pA.form(h:pA B X L w v l):∃A c,v=.slice A l.length c/\l.length<=c:=by obtain⟨A,c,xs,e,D,_⟩:=h.values;exact⟨A,c,e,D⟩
end
theorem L0{o:Oper}{a:Act}{K:Act->World->Prop}{Q:Exit->Act->World->Prop}(s x:Operand)
  (ho:o.op=.call { callee:=.builtin .append,args:=#[s,x],argTypes:=#[22,22] })
  (B S L:Nat)(X:Nat->Prop)(w1:World)(u:Value)(l:List Nd)(n:Nd)(A:Option Addr)(cap:Nat)(hs:a.eval s=u)(T:Nat)(hx:a.eval x=.slice (some ⟨T,0,none⟩) 1 1)(hT:w1.heap.size=T)
  (hO:pA B X L w1 u l)(gb:∀b,X b->b<B)(hB:B<=S)(hS:S<=w1.heap.size)(gk:B<=L)(gj:L<S)(hu:∀g,u.ownBlock=some g->g<S)(hl:l.length<=1000000)
  (hV:bK (fun b=>X b\/S<=b) w1 n [.int .i64 n.kind,.string n.text,.slice A n.kids.length cap,.int .i64 n.pos])
  (h:∀g c w2,pA B X L w2 (.slice (some ⟨g,0,none⟩) (l.length+1) c) (l++[n])->Below B w1 w2->w2.heap[L]? = w1.heap[L]? ->K (a.put o.dst (.slice (some ⟨g,0,none⟩) (l.length+1) c)) w2):
  o.wp Tryz.prog a (w1.alloc (.cells (nv n A cap) 24)) K Q:=by
 subst hT;obtain⟨i0,hi,gg,ge,gd⟩:=qH pF;obtain⟨xs,O,gh⟩:=hO.out;refine vj _ s x 22 ho B 24 i0 _ 4 56 Tryz.underlying22 hi gg ge gd rfl (by omega) u l.length xs hs (O.alloc _) ⟨w1,0,none⟩ 1 1 [.int .i64 n.kind,.string n.text,.slice A n.kids.length cap,.int .i64 n.pos] hx rfl
  (qx (cs:=(nv n A cap)) (qq _ _)) (sH n A cap) (by omega) (by unfold maxLen;omega) (by omega) (by rw[jO];omega) _ rfl ?_
 intro g c w2 hown1 M ga _;have N:∀g,u.ownBlock=some g->B<=g:=fun g M=>(hO.lt g M).1;have I:∀b,b<w1.heap.size->some b≠u.ownBlock->w2.heap[b]? = w1.heap[b]? :=fun b hb hne=>(M.block b (by rw[jO];omega) hne).trans (gW w1 _ b hb);have gi:w1.heap.size<=w2.heap.size:=jB (by rw[jO];omega) M.size;have U:g≠L:=by
  rcases ga with e|e
  ·exact hO.far g e
  ·rw[jO]at e;omega
 have J:an (fun b=>(X b\/B<=b)/\some b≠(Value.slice (some ⟨g,0,none⟩) (l.length+1) c).ownBlock/\b≠L) w2 (l++[n]) (xs++[.int .i64 n.kind,.string n.text,.slice A n.kids.length cap,.int .i64 n.pos]):=by
  have h1:an (fun b=>(X b\/B<=b)/\some b≠u.ownBlock/\b≠L/\b<w1.heap.size) w1 (l++[n]) (xs++[.int .i64 n.kind,.string n.text,.slice A n.kids.length cap,.int .i64 n.pos]):=
   (gh.mono fun b hb D=>⟨hb.1,hb.2.1,hb.2.2,D⟩).app (an.one (hV.mono fun b hb D=>⟨hb.imp id fun hb=>jB hB hb,fun e=>by
    have h1:=hu b e.symm;have h2:=N b e.symm;rcases hb with hb|hb
    ·have:=gb b hb;omega
    ·omega,fun hz=>by
    rcases hb with hb|hb
    ·have:=gb b hb;omega
    ·omega,D⟩))
  have h2:=h1.keep (w':=w2) fun b hb D=>I b D hb.2.1;refine h2.mono fun b hb _=>⟨hb.1,fun e=>?_,hb.2.2.1⟩;(have e3:b=g:=by simpa[Value.ownBlock]using e);subst e3;rcases ga with e|e
  ·exact hb.2.1 e.symm
  ·rw[jO]at e;have:=hb.2.2.2;omega
 refine h g c w2 ⟨⟨_,by rw[gJ];exact hown1,J⟩,fun g' hg'=>?_⟩ ⟨M.os,M.tape,M.output,gi,fun b hb=>?_⟩ ?_
 ·(have e3:g=g':=by simpa[Value.ownBlock]using hg');rw[<-e3];exact U
 ·exact I b (by omega) fun e=>by have:=N b e.symm;omega
 ·exact I L (by omega) fun e=>hO.far L e.symm rfl
theorem B0{ops:Array Oper}{rest:List Oper}{o:Oper}{a:Act}{Q:Exit->Act->World->Prop}(D:o.guard=none)(s x:Operand)
  (U:o.op=.call { callee:=.builtin .append,args:=#[s,x],argTypes:=#[22,22] })
  (B S L:Nat)(X:Nat->Prop)(w1:World)(u:Value)(l:List Nd)(n:Nd)(A:Option Addr)(cap:Nat)(hs:a.eval s=u)(T:Nat)(N:a.eval x=.slice (some ⟨T,0,none⟩) 1 1)(hT:w1.heap.size=T)
  (hO:pA B X L w1 u l)(I:∀b,X b->b<B)(hB:B<=S)(hS:S<=w1.heap.size)(M:B<=L)(J:L<S)(O:∀g,u.ownBlock=some g->g<S)(hl:l.length<=1000000)
  (hV:bK (fun b=>X b\/S<=b) w1 n [.int .i64 n.kind,.string n.text,.slice A n.kids.length cap,.int .i64 n.pos])
  (h:∀g c w2,pA B X L w2 (.slice (some ⟨g,0,none⟩) (l.length+1) c) (l++[n])->Below B w1 w2->w2.heap[L]? = w1.heap[L]? ->wpList Tryz.prog ops Q rest (a.put o.dst (.slice (some ⟨g,0,none⟩) (l.length+1) c)) w2):
  wpList Tryz.prog ops Q (o::rest) a (w1.alloc (.cells (nv n A cap) 24)):=
 vn D fun _ hK=>L0 s x U B S L X w1 u l n A cap hs T N hT hO I hB hS M J O hl hV fun g c w2 h1 h2 h3=>hK _ _ (h g c w2 h1 h2 h3)
end
end Go.Proofs.YtiebcdeafofgdaaGreatDoor
