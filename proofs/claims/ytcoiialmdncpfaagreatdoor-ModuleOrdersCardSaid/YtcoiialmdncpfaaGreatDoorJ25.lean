/-
  Parts of the proof: Otread Oof Rlita Rlit. By an AI agent.
-/
import Derived.Test.YtcoiialmdncpfaaGreatDoorJ24
import Derived.Test.YtcoiialmdncpfaaGreatDoorJ21
import Derived.Test.YtcoiialmdncpfaaGreatDoorJ22
import Derived.Test.YtcoiialmdncpfaaGreatDoorJ23
import Derived.Test.YtcoiialmdncpfaaGreatDoorJ13
import Derived.BigQuiet
import Derived.Defers
import Derived.Recover
import Derived.Deep.CutBlock
open Go.Proofs.Tryz
set_option maxRecDepth 100000
set_option maxHeartbeats 8000000
namespace Go.Proofs.YtcoiialmdncpfaaGreatDoor
section
open Go.RowKit Go.Lib Go.Proofs
attribute [local go_sem ↓] Go.wp_at_zero Go.wp_at_succ
theorem Ot(v:Value)(w:World):(Instr.typeAssert (.iface 134 v) 20 134 true).run prog w=.ok (.tuple #[v,.bool true]) w:=by kernel_rfl
attribute [local go_sem] Ot
theorem Pu{X:Nat->Prop}{W:World}{v:Value}{x:Tx}(h:ni X W v x){b:Nat}(hb:¬ X b)(a c d:Value):ni X (((W.setCell ⟨b,0,none⟩ a).setCell ⟨b,1,none⟩ c).setCell ⟨b,2,none⟩ d) v x:=
 h.keep fun k hk _=>(gF _ ⟨b,2,none⟩ _ k (by rintro rfl;exact hb hk)).trans ((gF _ ⟨b,1,none⟩ _ k (by rintro rfl;exact hb hk)).trans (gF _ ⟨b,0,none⟩ _ k (by rintro rfl;exact hb hk)))
theorem ta(B P Q:Nat)(a0 a1 a2 vQ:Value)(w:World)(z:aa w P 73 #[a0,a1,a2])(hQ:aa w Q 49 #[vQ])(q:B<=P)(h:B<=Q)(J:P≠Q):
  CallsD prog 69 #[P,Q] (.panicking [{ v:=.iface 134 (.agg #[]),recovered:=false }]) w
   fun e u' w'=>e=.returned (.tuple #[])/\u'=.panicking [{ v:=.iface 134 (.agg #[]),recovered:=true }] /\
    aa w' P 73 #[.string ⟨#[]⟩,.string ⟨#[]⟩,.slice none 0 0]/\aa w' Q 49 #[.int .i64 8]/\Below B w w':=by refine vM func69 rfl fun c₀ cs hu=>?_;apply vW;apply qY;simp[wpOpsS,go_sem,recoverD,hu,ntmps69,Exit.thenS];apply vW;apply qY;simp[wpOpsS,go_sem,Exit.thenS];refine wpS_cond (t:=true) (by simp[Act.eval,Array.replicate]) ?_;simp only[kS];refine xq ?_;change Code.wp _ _ _ { tmps:=#[.pointer (some ⟨P,0,none⟩),.pointer (some ⟨Q,0,none⟩),.iface 134 (.agg #[]),undef,undef,.iface 134 (.agg #[]),.iface 134 (.agg #[]),.bool true,undef,undef,undef,undef,undef,undef,undef,undef,undef],defers:=[] } _;have D:=z.alloc (.cells #[] 134);have I:=hQ.alloc (.cells #[] 134);have y:Below B w (w.alloc (.cells #[] 134)):=(gC _ _).alloc (by have:=z.lt;omega) _;(go_upto_region 5 with fail);generalize w.alloc (.cells #[] 134)=w1 at *;have c0:=(D.cell 0).trans rfl;have c1:=(D.cell 1).trans rfl;have c2:=(D.cell 2).trans rfl;have f0:=D.frozen 0;have f1:=D.frozen 1;have f2:=D.frozen 2;have d0:=aw I;have df:=I.frozen 0;go_wp2_with fail;have O:=(AR D (.string ⟨#[]⟩) (.string ⟨#[]⟩) (.slice none 0 0)).far (p:=⟨Q,0,none⟩) J (.int .i64 8);have M:=(IC I J.symm (.string ⟨#[]⟩) (.string ⟨#[]⟩) (.slice none 0 0)).set_ 0 (.int .i64 8);have x:=(AS y q (.string ⟨#[]⟩) (.string ⟨#[]⟩) (.slice none 0 0)).setCell (p:=⟨Q,0,none⟩) h (.int .i64 8);refine⟨rfl,_,rfl,.tuple #[],?_,rfl,rfl,O,by simpa using M,x⟩;simp[results,results69,go_sem]
def Cm(w:World)(r:Tx×Int)(e:Ending)(w':World):Prop:=∃v,e=.returned (.tuple #[v,.int .i64 r.2])/\ni (fun b=>w.heap.size<=b) w' v r.1/\Below w w w'
theorem Dr.tail{w w':World}{X:Nat}{s:ByteArray}(h:Dr w X s)(hb:Below w w w'):Dr w' X s:=h.bl hb
theorem FV(s:ByteArray)(hf:s.size<=1000000000)(w:World):Calls prog 44 #[s] w (Cm w (fU s)):=by
 have hg:∀(fn:Fn)(first cap:Array Value)(w:World),(Instr.makeFunc fn first cap).run prog w=.ok (.func fn first cap) w:=fun _ _ _ _=>rfl;by_cases gh:500<s.size
 ·have HS:Hid (fU s=(si,12)):=hid (by unfold fU;rw[gL gh]);generalize fU s=z at *;have hd:decide ((500:Int)<(s.size:Int))=true:=jK (by omega);have y:Below w w ((w.alloc (.cells #[.string ⟨#[]⟩,.string ⟨#[]⟩,.slice none 0 0] 73)).alloc (.cells #[.int .i64 0] 49)):=bel;have J:aa ((w.alloc (.cells #[.string ⟨#[]⟩,.string ⟨#[]⟩,.slice none 0 0] 73)).alloc (.cells #[.int .i64 0] 49)) w.heap.size 73 #[.string ⟨#[]⟩,.string ⟨#[]⟩,.slice none 0 0]:=(aa.new w _ _).alloc _;have ga:aa ((w.alloc (.cells #[.string ⟨#[]⟩,.string ⟨#[]⟩,.slice none 0 0] 73)).alloc (.cells #[.int .i64 0] 49)) (w.heap.size+1) 49 #[.int .i64 0]:=aa.new_at (by simp) _ _;(go_enter_defers func44,ntmps44);(go_upto_region 2 with fail);generalize(w.alloc (.cells #[.string ⟨#[]⟩,.string ⟨#[]⟩,.slice none 0 0] 73)).alloc (.cells #[.int .i64 0] 49)=w1 at *;have c0:=(J.cell 0).trans rfl;have c1:=(J.cell 1).trans rfl;have c2:=(J.cell 2).trans rfl;have f0:=J.frozen 0;have f1:=J.frozen 1;have f2:=J.frozen 2;have d0:=aw ga;have df:=ga.frozen 0;go_wp2_with fail;have I:=(AR J (.string ⟨#[]⟩) (.string ⟨#[]⟩) (.slice none 0 0)).far (p:=⟨w.heap.size+1,0,none⟩) (by show w.heap.size≠w.heap.size+1;omega) (.int .i64 12);have gg:=(IC (b:=w.heap.size) ga (by omega) (.string ⟨#[]⟩) (.string ⟨#[]⟩) (.slice none 0 0)).set_ 0 (.int .i64 12);have gl:=(AS (b:=w.heap.size) y (gA _) (.string ⟨#[]⟩) (.string ⟨#[]⟩) (.slice none 0 0)).setCell (p:=⟨w.heap.size+1,0,none⟩) (jC _) (.int .i64 12);clear c0 c1 c2 f0 f1 f2 d0 df J ga y;generalize(((w1.setCell ⟨w,0,none⟩ (.string ⟨#[]⟩)).setCell ⟨w,1,none⟩ (.string ⟨#[]⟩)).setCell ⟨w,2,none⟩ (.slice none 0 0)).setCell ⟨w.heap.size+1,0,none⟩ (.int .i64 12)=w2 at *;have z0:w2.cell? ⟨w,0,none⟩=some (.string ⟨#[]⟩):=(I.cell 0).trans rfl;have z1:w2.cell? ⟨w,1,none⟩=some (.string ⟨#[]⟩):=(I.cell 1).trans rfl;have z2:w2.cell? ⟨w,2,none⟩=some (.slice none 0 0):=(I.cell 2).trans rfl;have z3:w2.cell? ⟨w.heap.size+1,0,none⟩=some (.int .i64 12):=(gg.cell 0).trans rfl;simp[bodyPostD,Leaves,results,results44,go_sem,z0,z1,z2,z3];rw[HS.out];exact⟨_,rfl,ni.zero,gl⟩
 ·have hd:decide ((500:Int)<(s.size:Int))=false:=gV (by omega);(have g6:((((w.alloc (.cells #[.string ⟨#[]⟩,.string ⟨#[]⟩,.slice none 0 0] 73)).alloc (.cells #[.int .i64 0] 49)).alloc (.cells #[s] 138))).heap.size=w.heap.size+3:=by simp);have y:Below w w (((w.alloc (.cells #[.string ⟨#[]⟩,.string ⟨#[]⟩,.slice none 0 0] 73)).alloc (.cells #[.int .i64 0] 49)).alloc (.cells #[s] 138)):=bel;have J:aa (((w.alloc (.cells #[.string ⟨#[]⟩,.string ⟨#[]⟩,.slice none 0 0] 73)).alloc (.cells #[.int .i64 0] 49)).alloc (.cells #[s] 138)) w.heap.size 73 #[.string ⟨#[]⟩,.string ⟨#[]⟩,.slice none 0 0]:=((aa.new w _ _).alloc _).alloc _;have ga:aa (((w.alloc (.cells #[.string ⟨#[]⟩,.string ⟨#[]⟩,.slice none 0 0] 73)).alloc (.cells #[.int .i64 0] 49)).alloc (.cells #[s] 138)) (w.heap.size+1) 49 #[.int .i64 0]:=(aa.new_at (by simp) _ _).alloc _;have gy:Dr (((w.alloc (.cells #[.string ⟨#[]⟩,.string ⟨#[]⟩,.slice none 0 0] 73)).alloc (.cells #[.int .i64 0] 49)).alloc (.cells #[s] 138)) (w.heap.size+1+1) s:=aa.new_at (by simp) _ _;have H1:=hid (yO (s.size+1) _ (uP _ (s.size+1) (by omega)) (by omega) s (by omega) _ gy);have HS:Hid (fU s=match lP (s.size+1) s with
   |none=>(si,8)
   |some (x,s1)=>if(decide ((aC s1 ⟨#[]⟩).2=(⟨#[]⟩:BA))&&bo 100 x)=true then(x,0)else(si,8)):=hid (by unfold fU;rw[gE gh];rfl)
  have HM:Hid (∀x s1,lP (s.size+1) s=some (x,s1)->cU x):=hid fun x s1 he=>Cl _ _ _ _ he (by omega);clear gy;generalize fU s=z at *;(go_enter_defers func44,ntmps44);go_wp2_with fail;refine H1.out.mono ?_;clear H1;generalize((w.alloc (.cells #[.string ⟨#[]⟩,.string ⟨#[]⟩,.slice none 0 0] 73)).alloc (.cells #[.int .i64 0] 49)).alloc (.cells #[s] 138)=w0 at *;have fin:Hid (∀w1:World,aa w1 w.heap.size 73 #[.string ⟨#[]⟩,.string ⟨#[]⟩,.slice none 0 0]->aa w1 (w.heap.size+1) 49 #[.int .i64 8]->z=(si,8)->Below w w w1 ->
   Cm w z (.returned (.tuple #[.agg #[.string ⟨#[]⟩,.string ⟨#[]⟩,.slice none 0 0],.int .i64 8])) w1):=hid fun w1 _ _ hz hb=>by rw[hz];exact⟨_,rfl,ni.zero,hb⟩
  cases ht:lP (s.size+1) s with
  |none=>rw[ht]at HS;rintro e w1⟨rfl,h⟩;have I:=h.blk J (by omega);have gg:=h.blk ga (by omega);have gk:=y.trans (h.to_below (n:=w.heap.size) y.size (fun k(hk:k=w.heap.size+1+1)=>by omega));unfold dC;refine kZ (f:=69) (args:=#[w,.pointer (some ⟨w.heap.size+1,0,none⟩)]) (by simp) (by simp[go_sem]) ?_;refine(ta w.heap.size w.heap.size (w.heap.size+1) _ _ _ _ w1 I gg (gA _) (by omega) (by omega)).mono ?_;rintro e u' M⟨rfl,rfl,D,gb,gj⟩;have z0:M.cell? ⟨w,0,none⟩=some (.string ⟨#[]⟩):=(D.cell 0).trans rfl;have z1:M.cell? ⟨w,1,none⟩=some (.string ⟨#[]⟩):=(D.cell 1).trans rfl;have z2:M.cell? ⟨w,2,none⟩=some (.slice none 0 0):=(D.cell 2).trans rfl;have z3:M.cell? ⟨w.heap.size+1,0,none⟩=some (.int .i64 8):=(gb.cell 0).trans rfl;simp[Leaves,settle,results,results44,go_sem,z0,z1,z2,z3];exact fin.out M D gb HS.out (gk.trans gj)
  | some r=>
   obtain⟨x,s1⟩:=r;rw[ht]at HS;have hc:=hid (HM.out x s1 ht);clear HM;rintro e w1⟨⟨v,rfl,hv⟩,gl,h⟩;have I:=h.blk J (by omega);have gg:=h.blk ga (by omega);have gk:=y.trans (h.to_below (n:=w.heap.size) y.size (fun k(hk:k=w.heap.size+1+1)=>by omega));obtain⟨A,cp,rfl,-⟩:=hv.toC;rw[g6]at hv;clear h J ga y ht;have c0:=(I.cell 0).trans rfl;have c1:=(I.cell 1).trans rfl;have c2:=(I.cell 2).trans rfl;have f0:=I.frozen 0;have f1:=I.frozen 1;have f2:=I.frozen 2;(go_upto_region 6 with fail);clear c0 c1 c2 f0 f1 f2;have gv:=AR I (.string x.op) (.string x.tag) (.slice A x.kids.length cp);have gu:=IC (b:=w.heap.size) gg (by omega) (.string x.op) (.string x.tag) (.slice A x.kids.length cp);have gx:=IC (b:=w.heap.size) gl (by omega) (.string x.op) (.string x.tag) (.slice A x.kids.length cp);have gr:=AS (b:=w.heap.size) gk (gA _) (.string x.op) (.string x.tag) (.slice A x.kids.length cp);have gt:=Pu (b:=w.heap.size) hv (by omega) (.string x.op) (.string x.tag) (.slice A x.kids.length cp);generalize((w1.setCell ⟨w,0,none⟩ (.string x.op)).setCell ⟨w,1,none⟩ (.string x.tag)).setCell ⟨w,2,none⟩ (.slice A x.kids.length cp)=w2 at *;clear I gg gl gk hv;have H2:=hid (uO (w.heap.size+1+1) s1 ⟨#[]⟩ _ gx);go_wp2_with fail;refine H2.out.mono ?_;rintro e w3⟨rfl,gi,gw⟩;have O:=gi.blk gv (by omega);have gp:=gi.blk gu (by omega);have gq:=gr.trans (gi.to_below (n:=w.heap.size) gr.size (fun k(hk:k=w.heap.size+1+1)=>by omega));have gm:ni (fun b=>w.heap.size+3<=b) w3 (.agg #[.string x.op,.string x.tag,.slice A x.kids.length cp]) x:=gt.keep fun k hk hlt=>gi.same k hlt (by omega);have s0:=aw gw;have qs:=bN (aC s1 ⟨#[]⟩).2 [];clear gi gv gu gx gr H2 gt;have c0:=(O.cell 0).trans rfl;have c1:=(O.cell 1).trans rfl;have c2:=(O.cell 2).trans rfl;have f0:=O.frozen 0;have f1:=O.frozen 1;have f2:=O.frozen 2;have HR:=hid (sD x _ w3 hc.out (gm.mono fun _ _ _=>trivial));generalize(aC s1 ⟨#[]⟩).2=s2 at *;change decide (s2=(⟨#[]⟩:BA))=_ at qs;have g3:∀W,Calls prog 72 #[.bool false] W fun e w'=>e=dC/\W=w':=og;have catch_:Hid (∀w4:World,Below w3 w3 w4->z=(si,8)->CallsD prog 69 #[w,.pointer (some ⟨w.heap.size+1,0,none⟩)] (.panicking [{ v:=.iface 134 (.agg #[]),recovered:=false }]) w4
    fun e u' w'=>e=.returned (.tuple #[])/\u'=.panicking [{ v:=.iface 134 (.agg #[]),recovered:=true }] /\
     aa w' w.heap.size 73 #[.string ⟨#[]⟩,.string ⟨#[]⟩,.slice none 0 0]/\aa w' (w.heap.size+1) 49 #[.int .i64 8]/\Below w w w'):=hid fun w4 hb hz=>
    (ta w.heap.size w.heap.size (w.heap.size+1) _ _ _ _ w4 (O.bl hb) (gp.bl hb) (gA _) (by omega) (by omega)).mono fun _ _ _⟨h1,h2,h3,h4,h5⟩=>⟨h1,h2,h3,h4,(aE gq hb).trans h5⟩
   cases q:decide (s2=(⟨#[]⟩:BA))with
   |false=>rw[q]at qs HS;have hz:z=(si,8):=HS.out;have g2:(s2.toList==[])=false:=qs.symm;clear HS q qs HR;go_wp2_with fail;refine(og _).mono ?_;rintro e w4⟨rfl,rfl⟩;unfold dC;refine kZ (f:=69) (args:=#[w,.pointer (some ⟨w.heap.size+1,0,none⟩)]) (by simp) (by simp[go_sem]) ?_;refine(catch_.out _ (gC _ _) hz).mono ?_;rintro e u' M⟨rfl,rfl,D,gb,gj⟩;have z0:M.cell? ⟨w,0,none⟩=some (.string ⟨#[]⟩):=(D.cell 0).trans rfl;have z1:M.cell? ⟨w,1,none⟩=some (.string ⟨#[]⟩):=(D.cell 1).trans rfl;have z2:M.cell? ⟨w,2,none⟩=some (.slice none 0 0):=(D.cell 2).trans rfl;have z3:M.cell? ⟨w.heap.size+1,0,none⟩=some (.int .i64 8):=(gb.cell 0).trans rfl;simp[Leaves,settle,results,results44,go_sem,z0,z1,z2,z3];exact hz▸fin.out M D gb hz gj
   |true=>
    rw[q]at qs HS;have g2:(s2.toList==[])=true:=qs.symm;clear q qs;go_wp2_with fail;refine HR.out.mono ?_;rintro e w4⟨rfl,ge⟩;cases hr:bo 100 x with
    |false=>rw[hr]at HS;have hz:z=(si,8):=HS.out;clear HS hr HR;go_wp2_with fail;refine(og _).mono ?_;rintro e M⟨rfl,rfl⟩;unfold dC;refine kZ (f:=69) (args:=#[w,.pointer (some ⟨w.heap.size+1,0,none⟩)]) (by simp) (by simp[go_sem]) ?_;refine(catch_.out _ ge hz).mono ?_;rintro e u' M⟨rfl,rfl,D,gb,gj⟩;have z0:M.cell? ⟨w,0,none⟩=some (.string ⟨#[]⟩):=(D.cell 0).trans rfl;have z1:M.cell? ⟨w,1,none⟩=some (.string ⟨#[]⟩):=(D.cell 1).trans rfl;have z2:M.cell? ⟨w,2,none⟩=some (.slice none 0 0):=(D.cell 2).trans rfl;have z3:M.cell? ⟨w.heap.size+1,0,none⟩=some (.int .i64 8):=(gb.cell 0).trans rfl;simp[Leaves,settle,results,results44,go_sem,z0,z1,z2,z3];exact hz▸fin.out M D gb hz gj
    |true=>rw[hr]at HS;have hz:z=(x,0):=HS.out;clear HS hr HR catch_ fin;have gd:=O.bl ge;have gn:=gp.bl ge;have g9:=aE gq ge;have g1:ni (fun b=>w.heap.size+3<=b) w4 (.agg #[.string x.op,.string x.tag,.slice A x.kids.length cp]) x:=gm.keep fun k _ hlt=>ge.block k hlt;clear s0 c0 c1 c2 f0 f1 f2 O gp gq gw ge gm;go_wp2_with fail;refine(AQ _).mono ?_;rintro e M⟨rfl,rfl⟩;have c0:=(gd.cell 0).trans rfl;have c1:=(gd.cell 1).trans rfl;have c2:=(gd.cell 2).trans rfl;have f0:=gd.frozen 0;have f1:=gd.frozen 1;have f2:=gd.frozen 2;have d0:=aw gn;have df:=gn.frozen 0;go_wp2_with fail;clear c0 c1 c2 f0 f1 f2 d0 df;have ha:=AR gd (.string x.op) (.string x.tag) (.slice A x.kids.length cp);have g5:=IC (b:=w.heap.size) gn (by omega) (.string x.op) (.string x.tag) (.slice A x.kids.length cp);have g8:=AS (b:=w.heap.size) g9 (gA _) (.string x.op) (.string x.tag) (.slice A x.kids.length cp);have g0:=Pu (b:=w.heap.size) g1 (by omega) (.string x.op) (.string x.tag) (.slice A x.kids.length cp);generalize((M.setCell ⟨w,0,none⟩ (.string x.op)).setCell ⟨w,1,none⟩ (.string x.tag)).setCell ⟨w,2,none⟩ (.slice A x.kids.length cp)=w6 at *;have gs:=ha.far (p:=⟨w.heap.size+1,0,none⟩) (by show w.heap.size≠w.heap.size+1;omega) (.int .i64 0);(have g4:aa (w6.setCell ⟨w.heap.size+1,0,none⟩ (.int .i64 0)) (w.heap.size+1) 49 #[.int .i64 0]:=by simpa using g5.set_ 0 (.int .i64 0));have g7:=g8.setCell (p:=⟨w.heap.size+1,0,none⟩) (jC _) (.int .i64 0);have gz:ni (fun b=>w.heap.size+3<=b) (w6.setCell ⟨w.heap.size+1,0,none⟩ (.int .i64 0)) (.agg #[.string x.op,.string x.tag,.slice A x.kids.length cp]) x:=g0.keep fun k hk _=>gF _ ⟨w.heap.size+1,0,none⟩ _ k (by show k≠w.heap.size+1;omega);generalize w6.setCell ⟨w.heap.size+1,0,none⟩ (.int .i64 0)=w7 at *;refine kZ (f:=69) (args:=#[w,.pointer (some ⟨w.heap.size+1,0,none⟩)]) (by simp) (by simp[go_sem]) ?_;refine(DO _ _ _).mono ?_;rintro e u' w8⟨rfl,rfl,rfl⟩;have z0:w8.cell? ⟨w,0,none⟩=some (.string x.op):=(gs.cell 0).trans rfl;have z1:w8.cell? ⟨w,1,none⟩=some (.string x.tag):=(gs.cell 1).trans rfl;have z2:w8.cell? ⟨w,2,none⟩=some (.slice A x.kids.length cp):=(gs.cell 2).trans rfl;have z3:w8.cell? ⟨w.heap.size+1,0,none⟩=some (.int .i64 0):=aw g4;simp[Leaves,settle,results,results44,go_sem,z0,z1,z2,z3];rw[hz];exact⟨_,rfl,gz.mono fun b hb _=>by have hb:w.heap.size+3<=b:=hb;omega,g7⟩
def Ct:ByteArray:=(⟨#[47,47,103,111,58,98,117,105,108,100]⟩:BA)
def eW(t:cz):ByteArray:=⟨(Lib.trimPrefix t.text.data.toList Ct.data.toList).toArray⟩
def AU(t:cz):Bool:=Lib.hasPrefix t.text.data.toList Ct.data.toList
def tU(s:ByteArray)(en:Int)(t:cz):Bool:=
 AU t&&(decide (t.pos<=en)&&(!decide (eW t=(⟨#[]⟩:BA))&&(decide (ai (eW t) 0=32\/ai (eW t) 0=9)&&pJ s t.pos.toNat)))
def rC(t:cz):ByteArray:=⟨(Lib.trimRightS (eW t).data.toList [32,9,13]).toArray⟩
def pM(s:ByteArray)(en:Int):List cz->Tx->Bool->Tx×Bool×Int
 |[],x,th=>(x,th,0)
 |t::l,x,th=>if tU s en t=true then(if th=true then(si,false,8)else if(fU (rC t)).2=0 then pM s en l (fU (rC t)).1 true else(si,false,8))else pM s en l x th
def tf(sz:Int):List cz->Int
 |[]=>sz
 |t::l=>if t.text=(⟨#[112,97,99,107,97,103,101]⟩:BA)then t.pos else tf sz l
def p8(s:ByteArray):Tx×Bool×Int:=match ex s with
 | .err _ n=>(si,false,n)
 | .toks L=>pM s (tf (s.size:Int) L) (fV s) si false
theorem AV(s:ByteArray)(en:Int):∀(l:List cz)(x:Tx)(th:Bool),cU x->cU (pM s en l x th).1
 |[],_,_,h=>h
 | t::l,x,th,h=>by
  rw[pM];split
  ·split
   ·exact pK
   ·split
    ·exact AV s en l _ _ (FU _)
    ·exact pK
  ·exact AV s en l _ _ h
theorem Ov(s:ByteArray):cU (p8 s).1:=by
 unfold p8;cases ex s with
 |err p n=>exact pK
 |toks L=>exact AV _ _ _ _ _ pK
def M7(s:ByteArray)(t:cz):Prop:=t.text.size<=s.size/\∃p:Nat,t.pos=(p:Int)/\p<=s.size
theorem yS(s:ByteArray):∀(g i:Nat)(l ns:List cz),(∀t∈ns,M7 s t)->(∀t∈ol s g i l ns,M7 s t)/\(ol s g i l ns).length<=ns.length+g
 |0,_,_,ns,h=>⟨h,gA _⟩
 | g+1,i,l,ns,h=>by
  rw[ol];by_cases I:i<s.size
  ·rw [gL I];cases mm s i l with
   | go j l'=>
    have M:(∀t∈nn s i l j ns,M7 s t)/\(nn s i l j ns).length<=ns.length+1:=by
     unfold nn;split
     ·refine⟨fun t D=>?_,by simp⟩;rcases List.mem_append.1 D with D|D
      ·exact h t D
      ·rw[List.mem_singleton.1 D];refine⟨?_,i,rfl,by omega⟩;show((s.extract i s.size).extract 0 (j-i)).size<=s.size;rw[gW,gW];omega
     ·exact⟨h,jC _⟩
    have J:=yS s g j l' _ M.1;exact⟨J.1,by have:=M.2;have:=J.2;simp only;omega⟩
   |bad p=>exact⟨h,by simp only;omega⟩
  ·rw[gE I];exact⟨h,by omega⟩
theorem IG(s:ByteArray):(∀t∈fV s,M7 s t)/\(fV s).length<=s.size+1:=by have h:=yS s (s.size+1) 0 [] [] nofun;exact⟨h.1,by have:=h.2;unfold fV;simpa using this⟩
theorem D1(sz:Int)(L:List cz)(i:Nat)(h:i<L.length):tf sz (L.drop i)=if L[i].text=(⟨#[112,97,99,107,97,103,101]⟩:BA)then L[i].pos else tf sz (L.drop (i+1)):=by rw[jX h,tf]
theorem F0(s:ByteArray)(en:Int)(N:List cz)(i:Nat)(h:i<N.length)(x:Tx)(th:Bool):pM s en (N.drop i) x th=if tU s en N[i]=true then(if th=true then(si,false,8)else if(fU (rC N[i])).2=0 then pM s en (N.drop (i+1)) (fU (rC N[i])).1 true else(si,false,8))else pM s en (N.drop (i+1)) x th:=by rw[jX h,pM]
theorem F1{s:ByteArray}{L:List cz}(h:ex s=.toks L):s.size<=65536:=by
 unfold ex at h;split at h
 ·cases h
 ·omega
def Ow(w:World)(r:Tx×Bool×Int)(e:Ending)(w':World):Prop:=∃v,e=.returned (.tuple #[v,.bool r.2.1,.int .i64 r.2.2])/\yg w' v r.1/\Below w w w'
theorem EV(t:cz):(eW t).size<=t.text.size:=by have h:=sC t.text.data.toList Ct.data.toList;have D:t.text.data.toList.length=t.text.size:=kR;exact gM (vA jR) (by omega)
theorem Ox(t:cz):(rC t).size<=(eW t).size:=by(have h:(Lib.trimRightS (eW t).data.toList [32,9,13]).length<=(eW t).data.toList.length:=by unfold Lib.trimRightS;rw[p5];exact gM (List.dropWhile_sublist _).length_le (by rw[p5];exact gA _));have D:(eW t).data.toList.length=(eW t).size:=kR;exact gM (vA jR) (by omega)
theorem Py(j:Nat)(b:UInt8)(h:(⟨#[32,9,13]⟩:BA).data.toList[j]? = some b):b.toNat<128:=by have D:b∈[(32:UInt8),9,13]:=List.mem_of_getElem? h;simp only[vb,qN,xj]at D;rcases D with rfl|rfl|rfl<;>decide
theorem Cu(s:ByteArray)(i:Nat)(h:i<s.size):ai s i=(s[i]'h).toNat:=by unfold ai;rw[jJ,gO (show i<s.data.toList.length from h)];rfl
theorem IH{s:ByteArray}(h:s≠(⟨#[]⟩:BA)):0<s.size:=by
 rcases qH s.size with D|D
 ·exact absurd (ByteArray.size_eq_zero_iff.1 D) h
 ·exact D
theorem no{fn:Func}{q r1 r2:Tmp}(I:fn.results = #[.cell q 73,.tmp r1,.tmp r2])(tmps:Array Value){w:World}{g:Nat}{a b c v1 v2:Value}(y:tmps.getD q undef=.pointer (some ⟨g,0,none⟩))(h1:tmps.getD r1 undef=v1)(z:tmps.getD r2 undef=v2)(hb:aa w g 73 #[a,b,c]):
  (results fn tmps).run prog w=.ok (.tuple #[.agg #[a,b,c],v1,v2]) w:=by have x:w.cell? ⟨g,0,none⟩=some a:=(hb.cell 0).trans rfl;have h:w.cell? ⟨g,1,none⟩=some b:=(hb.cell 1).trans rfl;have O:w.cell? ⟨g,2,none⟩=some c:=(hb.cell 2).trans rfl;unfold results;rw[I];(have D:tmps[q]?.getD undef=.pointer (some ⟨g,0,none⟩):=by simpa using y);(have M:tmps[r1]?.getD undef=v1:=by simpa using h1);(have J:tmps[r2]?.getD undef=v2:=by simpa using z);simp[D,M,J,go_sem,x,h,O]
theorem F2 (A:Option Addr)(c:Nat)(s:ByteArray)(w:World)(hv:bR w A c s)(hT:fQ w)(hy:s.size<=1000000000):
  Calls prog 22 #[.slice A s.size c] w (Ow w (p8 s)):=by
 have gd:Below w w (w.alloc (.cells #[.string ⟨#[]⟩,.string ⟨#[]⟩,.slice none 0 0] 73)):=bel;have hj:=aa.new w 73 #[.string ⟨#[]⟩,.string ⟨#[]⟩,.slice none 0 0];have H1:=hid (td A c s _ (hv.below gd) (hT.below gd) (by omega));have HV:=hid hv;have HT:=hid hT;clear hv hT;cases hO:ex s with
 |err p n=>have hn:=mJ hO;(have g8:(n != 0)=true:=by rw[kE];omega);have HZ:Hid (p8 s=(si,false,n)):=hid (by unfold p8;rw[hO]);rw[hO]at H1;generalize p8 s=z at *;clear hO hn;(go_enter func22,ntmps22);go_wp2_with fail;refine H1.out.mono ?_;rintro e w1⟨rfl,O⟩;have M:=hj.bl O;have g6:=aE gd O;have c0:=(M.cell 0).trans rfl;have c1:=(M.cell 1).trans rfl;have c2:=(M.cell 2).trans rfl;have f0:=M.frozen 0;have f1:=M.frozen 1;have f2:=M.frozen 2;go_wp2_with fail;have g4:=AR M (.string ⟨#[]⟩) (.string ⟨#[]⟩) (.slice none 0 0);have q:=AS (b:=w.heap.size) g6 (gA _) (.string ⟨#[]⟩) (.string ⟨#[]⟩) (.slice none 0 0);refine jD (no rfl _ (by rfl) (by rfl) (by rfl) g4) rfl ?_;rw[HZ.out];exact⟨_,rfl,ni.zero,q⟩
 | toks L=>
  have hL:=F1 hO;have HN:=hid (FZ A c s);rw[hO]at H1;rw[hO]at HN;obtain⟨hu,jq⟩:=IG s;have jb:=hid hu;obtain⟨P,hP⟩:∃P,P=tf (s.size:Int) L:=⟨_,rfl⟩;have HZ:Hid (p8 s=pM s P (fV s) si false):=hid (by unfold p8;rw[hO,hP]);have HP:=hid hP;clear hP;generalize p8 s=z at *;clear hO hu;(go_enter func22,ntmps22);go_wp2_with fail;refine H1.out.mono ?_;rintro e w1⟨A1,c1,rfl,jh,jf,ht,O⟩;have M:=hj.bl O;have g6:=aE gd O;have ja:=hid ht;clear hj gd O H1 ht;(go_upto_block 0 with fail);go_cut [7] (fun s7 wy=>s7=.int .i64 P/\Below w1 w1 wy)
  case first=>
   clear HZ HN jb HV HT;go_wp2_with fail;go_loopg [7,9,28] L.length (fun g u7 _ u28 wr=>∃i:Nat,i<=L.length/\L.length-i<=g/\u7=.int .i64 (s.size:Int)/\u28=.int .i64 (i:Int)/\P=tf (s.size:Int) (L.drop i)/\Below w1 w1 wr)
   case atStart=>exact⟨0,gT _,by omega,rfl,rfl,HP.out,gC _ _⟩
   case round=>
    clear HP;obtain⟨i,hi,hg,rfl,rfl,hp,hB⟩:=hrel;have HP:=hid hp;clear hp;by_cases D:i<L.length
    ·(have gq:(i:Int)<(L.length:Int):=by omega);(have h0:(0:Int)<=(i:Int):=by omega);obtain⟨bk,off,rfl,gw,hc⟩:=(ja.out.below hB).el dX (by omega) rfl D;have k0:=hc i D 0 _ rfl;have k1:=hc i D 1 _ rfl;have k2:=hc i D 2 _ rfl;simp only[kF]at k0;have HS:=hid (HP.out.trans (D1 (s.size:Int) L i D));clear HP hc;generalize L[i]=x at *;obtain⟨kx,tx,px⟩:=x;simp only at k0 k1 k2 HS;have hq:=(bN tx [112,97,99,107,97,103,101]).symm;have gs:Below wr wr (wr.alloc (.cells #[.int .i64 kx,.string tx,.int .i64 px] 105)):=bel;have q:=aE hB gs;by_cases hd:tx=(⟨#[112,97,99,107,97,103,101]⟩:BA)
     ·subst hd;have HE:Hid (P=px):=hid (by rw[HS.out,gL rfl]);clear HS hq;go_wp2_with fail;go_meet;exact⟨by first|(rw[HE.out];done)|(rw[HE.out];rfl),q⟩
     ·have HE:=hid (show P=tf (s.size:Int) (L.drop (i+1))by rw[HS.out,gE hd]);rw[show decide (tx=⟨List.toArray [112,97,99,107,97,103,101]⟩)=false from gV hd]at hq;clear HS hd;go_wp2_with fail;go_roundg (L.length-(i+1))
      case measure=>omega
      case rel=>exact⟨i+1,by omega,gA _,rfl,by go_num,HE.out,q⟩
    ·(have gq:¬ (i:Int)<(L.length:Int):=by omega);have HE:Hid (P=(s.size:Int)):=hid (by rw[HP.out,jZ (by omega)];rfl);go_wp2_with fail;go_meet;exact⟨by first|(rw[HE.out];done)|(rw[HE.out];rfl),hB⟩
  case rest=>
   obtain⟨rfl,gs⟩:=hcut;have g4:=M.bl gs;have q:=aE g6 gs;have H3:=hid (HN.out wc (HV.out.below q) (HT.out.below q) (by omega));clear M g6 ja HN HP gs jh jf;go_wp2_with fail;refine H3.out.mono ?_;clear H3;rintro e w3⟨A3,c3,rfl,jr,hs,g9⟩;generalize fV s=N at *;have g3:=g4.bl g9;have jj:=aE q g9;have jo:w.heap.size<w3.heap.size:=g3.lt;have h8:Hid (∀i(h:i<N.length),∃bk off,A3=some ⟨bk,off,none⟩/\bk<w3.heap.size/\bk≠w.heap.size/\w3.cell? ⟨bk,off+i*3,none⟩=some (.int .i64 N[i].kind)/\w3.cell? ⟨bk,off+i*3+1,none⟩=some (.string N[i].text)/\w3.cell? ⟨bk,off+i*3+2,none⟩=some (.int .i64 N[i].pos)):=hid fun i h=>by
    obtain⟨bk,off,e,gw,hc⟩:=hs.el dX (by omega) rfl h;have k0:=hc i h 0 _ rfl;have k1:=hc i h 1 _ rfl;have k2:=hc i h 2 _ rfl;simp only[kF]at k0;refine⟨bk,off,e,gw,?_,k0,k1,k2⟩;rintro rfl;have h:=g3.cell (off+i*3);rw[k0]at h
    match off+i*3,h with
    |0,h=>cases h
    |1,h=>cases h
    |2,h=>cases h
    |k+3,h=>simp at h
   clear g4 q hs g9;go_wp2_with fail;go_loopg [3,4,11,12,13,41] N.length (fun g u3 u4 _ _ _ u41 wr=>∃(i:Nat)(x:Tx)(th:Bool)(Ax:Option Addr)(cx:Nat),i<=N.length/\N.length-i<=g/\u41=.int .i64 (i:Int)/\u3=.bool th/\u4=.int .i64 0/\z=pM s P (N.drop i) x th /\
    aa wr w.heap.size 73 #[.string x.op,.string x.tag,.slice Ax x.kids.length cx]/\ni (fun b=>w.heap.size<b) wr (.agg #[.string x.op,.string x.tag,.slice Ax x.kids.length cx]) x/\Kx (fun k=>k=w.heap.size) w3 wr)
   case atStart=>exact⟨0,si,false,none,0,gT _,by omega,rfl,rfl,rfl,HZ.out,g3,ni.zero,Kx.below (gC _ _)⟩
   case round=>
    clear HZ g3;obtain⟨i,x,th,Ax,cx,hi,hg,rfl,rfl,rfl,hz,hE,hX,hK⟩:=hrel;have HZ:=hid hz;have HX:=hid hX;have hB:Below w w wr:=jj.trans (hK.to_below (by omega) (fun k(hk:k=w.heap.size)=>by omega));have jn:=hK.bel.size;clear hz hX;by_cases D:i<N.length
    ·(have gq:(i:Int)<(N.length:Int):=by omega);(have h0:(0:Int)<=(i:Int):=by omega);obtain⟨bk,off,rfl,gw,g8,k0,k1,k2⟩:=h8.out i D;have ksame:∀j v,w3.cell? ⟨bk,j,none⟩=some v->wr.cell? ⟨bk,j,none⟩=some v:=fun j v h=>(jM (a:=⟨bk,j,none⟩) (hK.same bk gw g8)).trans h;replace k0:=ksame _ _ k0;replace k1:=ksame _ _ k1;replace k2:=ksame _ _ k2;have HS:=hid (HZ.out.trans (F0 s P N i D x th));have hm:=hid (jb.out _ (jF D));have HC:=hid (show tU s P N[i]=(AU N[i]&&(decide (N[i].pos<=P)&&(!decide (eW N[i]=(⟨#[]⟩:BA))&&(decide (ai (eW N[i]) 0=32\/ai (eW N[i]) 0=9)&&pJ s N[i].pos.toNat))))from rfl);have H4:=hid (fun W=>show Calls prog 34 #[.string N[i].text,.string Ct] W (fun e w'=>e=.returned (.tuple #[.string (eW N[i]),.bool (AU N[i])])/\w'=W)from rq N[i].text Ct W);have gg:=hid (fun W=>show Calls prog 45 #[.string (eW N[i]),.string ⟨#[32,9,13]⟩] W (fun e w'=>e=.returned (.string (rC N[i]))/\Below W W w')from FI _ ⟨#[32,9,13]⟩ W (by have:=EV N[i];have:=hm.out.1;omega) (by decide) Py);have gh:=hid (fun W=>FV (rC N[i]) (by have:=Ox N[i];have:=EV N[i];have:=hm.out.1;omega) W);clear HZ ksame;generalize fU (rC N[i])=rt at *;generalize rC N[i]=ct at *;generalize tU s P N[i]=cn at *;generalize AU N[i]=bm at *;generalize eW N[i]=rs at *;generalize N[i]=t at *;obtain⟨kx,tx,px⟩:=t;obtain⟨jc,p,hp,je⟩:=hm.out;simp only at hp HS HC k0 k1 k2 jc H4;subst hp;have gz:Below wr wr (wr.alloc (.cells #[.int .i64 kx,.string tx,(p:Int)] 105)):=bel;have g5:=aE hB gz;have yk:=hE.bl gz;have g2:=aa.new wr 105 #[.int .i64 kx,.string tx,(p:Int)];have gj:=hK.trans (Kx.below (Cx:=fun k=>k=w.heap.size) gz);have gl:=hid (HX.out.keep (fun k _ D=>gz.block k D));have n0:=(g2.cell 0).trans rfl;have n1:=(g2.cell 1).trans rfl;have n2:=(g2.cell 2).trans rfl;have gp:=hid (FO A c s kx tx p _ (HV.out.below g5) (HT.out.below g5) je hy);have hq:=(bN rs []).symm;change (rs.toList==[])=decide (rs=(⟨#[]⟩:BA))at hq;rw[show((p:Int)).toNat=p from rfl]at HC;generalize pJ s p=al at *;clear hE hK HX hB;(go_upto_region 14 with fail);generalize wr.alloc (.cells #[.int .i64 kx,.string tx,(p:Int)] 105)=V at *;go_wp2_with fail;refine(H4.out _).mono ?_;rintro e w5⟨rfl,rfl⟩;clear H4;(go_upto_region 15 with fail);have gd:(rs.toList==[])=decide (rs=(⟨#[]⟩:BA)):=hq;(have O:(rs.toList != []) = !decide (rs=(⟨#[]⟩:BA)):=by rw[<-hq];rfl);(have gm:Hid (cn=false->z=pM s P (N.drop (i+1)) x th):=hid fun h=>by rw[HS.out,h];rfl);clear hq;cases bm
     ·have ga:Hid (cn=false):=hid HC.out;clear HC HS gp gg gh;go_wp2_with fail;go_roundg (N.length-(i+1))
      case measure=>omega
      case rel=>exact⟨i+1,x,th,Ax,cx,by omega,gA _,by go_num,rfl,rfl,gm.out ga.out,yk,gl.out,gj⟩
     ·by_cases hP:P<(p:Int)
      ·have g0:decide (P<(p:Int))=true:=jK hP;have ga:Hid (cn=false):=hid (by rw[HC.out,show decide ((p:Int)<=P)=false from gV (by omega)];rfl);clear HC HS gp gg gh;go_wp2_with fail;go_roundg (N.length-(i+1))
       case measure=>omega
       case rel=>exact⟨i+1,x,th,Ax,cx,by omega,gA _,by go_num,rfl,rfl,gm.out ga.out,yk,gl.out,gj⟩
      ·have g0:decide (P<(p:Int))=false:=gV hP;by_cases gi:rs=(⟨#[]⟩:BA)
       ·rw[show decide (rs=(⟨#[]⟩:BA))=true from jK gi]at gd O;have ga:Hid (cn=false):=hid (by rw[HC.out,show decide (rs=(⟨#[]⟩:BA))=true from jK gi];simp);clear HC HS gp gg gh gi;go_wp2_with fail;go_roundg (N.length-(i+1))
        case measure=>omega
        case rel=>exact⟨i+1,x,th,Ax,cx,by omega,gA _,by go_num,rfl,rfl,gm.out ga.out,yk,gl.out,gj⟩
       ·rw [show decide (rs=(⟨#[]⟩:BA))=false from gV gi]at gd O;have hr:0<rs.size:=IH gi;obtain⟨ch,jg⟩:∃ch:UInt8,rs[0]'hr=ch:=⟨_,rfl⟩;(have hw:ai rs 0=ch.toNat:=by rw[<-jg];exact(Cu rs 0 hr));have gn:Hid (cn=(decide (ai rs 0=32\/ai rs 0=9)&&al)):=hid (by rw[HC.out,show decide (rs=(⟨#[]⟩:BA))=false from gV gi,show decide ((p:Int)<=P)=true from jK (by omega)];rfl);rw[hw]at gn;clear hw;obtain⟨b0,gb⟩:∃b0,b0=ch.toNat:=⟨_,rfl⟩;rw[<-gb]at gn;clear HC gi;by_cases h9:b0=32\/b0=9
        rotate_left
        ·(have e1:((ch.toNat:Int) != 32)=true:=by rw[kE];omega);(have e2:((ch.toNat:Int) != 9)=true:=by rw[kE];omega);have ga:Hid (cn=false):=hid (by rw[gn.out,show decide (b0=32\/b0=9)=false from gV h9];rfl);clear gn HS gp gg gh h9 gb;go_wp2_with fail;go_roundg (N.length-(i+1))
         case measure=>omega
         case rel=>exact⟨i+1,x,th,Ax,cx,by omega,gA _,by go_num,rfl,rfl,gm.out ga.out,yk,gl.out,gj⟩
        ·have ho:Hid (cn=al):=hid (by rw[gn.out,show decide (b0=32\/b0=9)=true from jK h9];rfl);(have e1:((ch.toNat:Int) != 32) = !decide (b0=32):=by rw[<-gb];by_cases h:b0=32<;>simp[h];omega);(have e2:((ch.toNat:Int) != 9)=decide (b0=32):=by rw[<-gb];rcases h9 with h|h<;>rw[h]<;>rfl);clear gn h9 gb;generalize decide (b0=32)=b32 at *;cases b32;all_goals
          go_wp2_with fail;refine gp.out.mono ?_;rintro e w6⟨rfl,gr⟩;have J:=yk.bl gr;have hl:=aE g5 gr;have ha:ni (fun b=>w.heap.size<b) w6 (.agg #[.string x.op,.string x.tag,.slice Ax x.kids.length cx]) x:=gl.out.keep fun k _ D=>gr.block k D;have hf:=gj.trans (Kx.below (Cx:=fun k=>k=w.heap.size) gr);have jp:w.heap.size<w6.heap.size:=J.lt;clear yk g5 gj gl gr gp n0 n1 n2 g2 k0 k1 k2;cases al
          ·have jm:=hid ha;have ga:Hid (cn=false):=ho;clear HS gg gh ha;go_wp2_with fail;go_roundg (N.length-(i+1))
           case measure=>omega
           case rel=>exact⟨i+1,x,th,Ax,cx,by omega,gA _,by go_num,rfl,rfl,gm.out ga.out,J,jm.out,hf⟩
          ·have g7:=hid (show z=if th=true then(si,false,8)else if rt.2=0 then pM s P (N.drop (i+1)) rt.1 true else(si,false,8)by rw[HS.out,ho.out];rfl);clear HS gm ho ha;cases th
           rotate_left
           ·have HE:Hid (z=(si,false,8)):=g7;have c0:=(J.cell 0).trans rfl;have c1:=(J.cell 1).trans rfl;have c2:=(J.cell 2).trans rfl;have f0:=J.frozen 0;have f1:=J.frozen 1;have f2:=J.frozen 2;clear g7 gg gh;go_wp2_with fail;have I:=AR J (.string ⟨#[]⟩) (.string ⟨#[]⟩) (.slice none 0 0);have gt:=AS (b:=w.heap.size) hl (gA _) (.string ⟨#[]⟩) (.string ⟨#[]⟩) (.slice none 0 0);refine jD (no rfl _ (by rfl) (by rfl) (by rfl) I) rfl ?_;rw[HE.out];exact⟨_,rfl,ni.zero,gt⟩
           ·have gu:Hid (z=if rt.2=0 then pM s P (N.drop (i+1)) rt.1 true else(si,false,8)):=g7;obtain⟨y,ey⟩:=rt;simp only at gu;clear g7;go_wp2_with fail;refine(gg.out _).mono ?_;rintro e w7⟨rfl,gy⟩;have hh:=J.bl gy;have h6:=aE hl gy;have h3:=hf.trans (Kx.below (Cx:=fun k=>k=w.heap.size) gy);have jd:w.heap.size<w7.heap.size:=hh.lt;clear J hl hf gy gg;go_wp2_with fail;refine(gh.out _).mono ?_;rintro e w8⟨v,rfl,gv,gx⟩;obtain⟨Ay,cy,rfl,-⟩:=gv.toC;simp only at gv;have ge:=hh.bl gx;have h5:=aE h6 gx;have h2:=h3.trans (Kx.below (Cx:=fun k=>k=w.heap.size) gx);have h1:ni (fun b=>w.heap.size<b) w8 (.agg #[.string y.op,.string y.tag,.slice Ay y.kids.length cy]) y:=gv.mono fun b hb _=>jY jd hb;clear hh h6 h3 gx gh gv;have c0:=(ge.cell 0).trans rfl;have c1:=(ge.cell 1).trans rfl;have c2:=(ge.cell 2).trans rfl;have f0:=ge.frozen 0;have f1:=ge.frozen 1;have f2:=ge.frozen 2;(go_upto_region 20 with fail);have I:=AR ge (.string y.op) (.string y.tag) (.slice Ay y.kids.length cy);have gt:=AS (b:=w.heap.size) h5 (gA _) (.string y.op) (.string y.tag) (.slice Ay y.kids.length cy);have g1:=Pu (b:=w.heap.size) h1 (by omega) (.string y.op) (.string y.tag) (.slice Ay y.kids.length cy);have ji:=((h2.trans (Kx.setCell (Cx:=fun k=>k=w.heap.size) w8 rfl 0 (.string y.op))).trans (Kx.setCell (Cx:=fun k=>k=w.heap.size) _ rfl 1 (.string y.tag))).trans (Kx.setCell (Cx:=fun k=>k=w.heap.size) _ rfl 2 (.slice Ay y.kids.length cy));clear c0 c1 c2 f0 f1 f2 ge h5 h2 h1;generalize((w8.setCell ⟨w,0,none⟩ (.string y.op)).setCell ⟨w,1,none⟩ (.string y.tag)).setCell ⟨w,2,none⟩ (.slice Ay y.kids.length cy)=w9 at *;have jl:=hid g1;clear g1;by_cases he:ey=0
            ·subst he;have jk:Hid (z=pM s P (N.drop (i+1)) y true):=gu;clear gu;go_wp2_with fail;go_roundg (N.length-(i+1))
             case measure=>omega
             case rel=>exact⟨i+1,y,true,Ay,cy,by omega,gA _,by go_num,rfl,rfl,jk.out,I,jl.out,ji⟩
            ·have HE:Hid (z=(si,false,8)):=hid (by rw[gu.out,gE he]);(have g8:(ey != 0)=true:=by rw[kE];exact he);have c0:=(I.cell 0).trans rfl;have c1:=(I.cell 1).trans rfl;have c2:=(I.cell 2).trans rfl;have f0:=I.frozen 0;have f1:=I.frozen 1;have f2:=I.frozen 2;clear gu he;go_wp2_with fail;have h4:=AR I (.string ⟨#[]⟩) (.string ⟨#[]⟩) (.slice none 0 0);have h7:=AS (b:=w.heap.size) gt (gA _) (.string ⟨#[]⟩) (.string ⟨#[]⟩) (.slice none 0 0);refine jD (no rfl _ (by rfl) (by rfl) (by rfl) h4) rfl ?_;rw[HE.out];exact⟨_,rfl,ni.zero,h7⟩
    ·(have gq:¬ (i:Int)<(N.length:Int):=by omega);have HE:Hid (z=(x,th,0)):=hid (by rw[HZ.out,jZ (by omega)];rfl);clear HZ;have c0:=(hE.cell 0).trans rfl;have c1:=(hE.cell 1).trans rfl;have c2:=(hE.cell 2).trans rfl;have f0:=hE.frozen 0;have f1:=hE.frozen 1;have f2:=hE.frozen 2;go_wp2_with fail;have I:=AR hE (.string x.op) (.string x.tag) (.slice Ax x.kids.length cx);have gt:=AS (b:=w.heap.size) hB (gA _) (.string x.op) (.string x.tag) (.slice Ax x.kids.length cx);have g1:=Pu (b:=w.heap.size) HX.out (by omega) (.string x.op) (.string x.tag) (.slice Ax x.kids.length cx);refine jD (no rfl _ (by rfl) (by rfl) (by rfl) I) rfl ?_;rw[HE.out];exact⟨_,rfl,g1.mono fun _ _ _=>trivial,gt⟩
end
section
open Go.RowKit Go.Lib Go.Proofs
attribute [local go_sem ↓] Go.wp_at_zero Go.wp_at_succ
attribute [local go_sem] aK aL aM aZ a6 a7 a8
def IT(E:bC)(X:Nat->Prop)(w:World)(r:d5 Nd)(e:Ending)(w':World):Prop:=
 match r with
 | .ok n s=>(∃v,e=.returned v/\aq (fun b=>X b\/w.heap.size<=b) w' v n)/\au E s w w'
 | .fail p=>e=ag p/\w.grownBy w' (some E.R)
 | .out=>False
theorem Ga{E:bC}{X0:Nat->Prop}{w wk:World}{res:d5 Nd}{n:Nd}{s:St}{X:Nat->Prop}{a0 a1 a2 a3 z0 z1 z2 z3:Value}{g q:Nat}{fn:Func}{a:Act}(O:res=.ok n s)
  (J:aq X wk (.agg #[a0,a1,a2,a3]) n)(h:au E s w wk)(hb:aa wk g 41 #[z0,z1,z2,z3])(x:w.heap.size<=g)(y:E.R<g)(I:∀b,X b->(X0 b\/w.heap.size<=b)/\b≠g)
  (D:fn.results = #[.cell q 41])(M:a.tmps.getD q undef=.pointer (some ⟨g,0,none⟩))(hd:a.defers=[]):
  bodyPost prog fn (IT E X0 w res) .ret a (cM wk g a0 a1 a2 a3):=by refine jD (dx D _ M (cJ hb a0 a1 a2 a3)) hd ?_;rw[O];exact⟨⟨_,rfl,(J.kept (cA (fun b hb=>(I b hb).2) _ _ _ _)).mono fun b hb _=>(I b hb).1⟩,dI h x y _ _ _ _⟩
theorem yY{E:bC}{X0:Nat->Prop}{w w1 w2:World}{res:d5 Nd}{p:Int}(D:res=.fail p)(J:w.grownBy w1 (some E.R))(I:w1.grownBy w2 (some E.R)):IT E X0 w res (ag p) w2:=by rw[D];exact⟨rfl,J.trans I⟩
theorem Gb{E:bC}{sA s2:St}{X:Nat->Prop}{w D h w8:World}{K O G:Nat}{x:Nd}{l:List Nd}{A:Option Addr}{cp:Nat}{A8:Option Addr}{c8:Nat}{ys:List Value}
  (gh:au E sA w D)(hC:aY (fun b=>X b/\b<w.heap.size) D x [.int .i64 x.kind,.string x.text,.slice A x.kids.length cp,.int .i64 x.pos])
  (gd:¬ X E.R)(gj:E.R<w.heap.size)(z:w.heap.size<=K)(gt:K<D.heap.size)(gp:O<D.heap.size)(y:w.heap.size<=O)(gq:K≠O)(gu:G<D.heap.size)(gk:w.heap.size<=G)(gs:K≠G)(gn:O≠G)
  (M:au E s2 D.drew h)(gb:ae (fun b=>D.drew.heap.size<=b) h l ys)
  (J:w8.ownsRow K 41 4 (.slice A8 (1+l.length) c8) (1+l.length) ([.int .i64 x.kind,.string x.text,.slice A x.kids.length cp,.int .i64 x.pos]++ys))(I:h.grownBy w8 (some K))
  (q:(Value.slice A8 (1+l.length) c8).ownBlock=some K\/(Value.slice A8 (1+l.length) c8).ownBlock=some h.heap.size)(kind:Int)(t:ByteArray)(pos:Int)(o:Nat)(u:Value):
  aq (fun b=>(X b\/w.heap.size<=b)/\b≠G/\b≠O) (w8.setCell ⟨O,o,none⟩ u) (.agg #[kind,t,.slice A8 (1+l.length) c8,pos]) (.mk kind t (x::l) pos)/\au E s2 w (w8.setCell ⟨O,o,none⟩ u):=by
 have hd:D.drew.heap.size=D.heap.size:=rfl;have gm:D.heap.size<=h.heap.size:=M.gr.size;have gl:=I.size;have gi:=(((hC.keep (w:=D) (w':=D.drew) (fun _ _ _=>rfl)).keep (w':=h) (ak.of_grown (X:=fun b=>X b/\b<w.heap.size) M.gr (fun g e hX=>by injection e with e;subst e;exact gd hX.1)).block).keep (w':=w8) (ak.of_grown (X:=fun b=>X b/\b<w.heap.size) I).block).mono (Y:=fun b=>(X b\/w.heap.size<=b)/\b≠G/\b≠O) (fun b hb _=>⟨.inl hb.1,by have:=hb.2;omega,by have:=hb.2;omega⟩);have ga:=(gb.keep (w':=w8) (ak.of_grown (X:=fun b=>D.drew.heap.size<=b) I).block).mono (Y:=fun b=>(X b\/w.heap.size<=b)/\b≠G/\b≠O) (fun b hb _=>⟨.inr (by omega),by omega,by omega⟩);have gg:=wi (X:=fun b=>(X b\/w.heap.size<=b)/\b≠G/\b≠O) (l:=x::l) J (by simp;omega) (fun g hg=>by
  rcases q with e|e<;>rw[hg]at e<;>injection e with e
  ·exact⟨.inr (by omega),by omega,by omega⟩
  ·exact⟨.inr (by omega),by omega,by omega⟩) (ae.cons gi ga)
 have ge:=gg.kept (ak.setCell (ak.refl (fun b=>(X b\/w.heap.size<=b)/\b≠G/\b≠O) w8) (p:=⟨O,o,none⟩) (fun hX=>hX.2.2 rfl) u);refine⟨aq.of_slice ge kind t pos,?_⟩;exact((gh.drew.trans M).grownNew I z (by omega)).own (p:=⟨O,o,none⟩) y (by show E.R<O;omega) u
theorem nw(E:bC)(F:eQ)(hF:mC E F)(X:Nat->Prop)(gv:¬ X E.R)(w:World)(s:St)(x:Nd)(v:Value)(h:aH E w s)(hv:aq X w v x)(gs:cI F x E.c s≠.out):
  Calls prog 320 #[E.R,v] w (IT E X w (cI F x E.c s)):=by
 obtain⟨A,cp,rfl,hC⟩:=hv.toC;generalize hres:cI F x E.c s=res at *;have gd:=hid (show(need ⟨#[123]⟩ E.c s).bind (fun _ s1=>(bZ (aU F.expr ⟨#[125]⟩ F.g []) E.c s1).bind fun l s2=>.ok (.mk 24 ⟨#[]⟩ (x::l) x.pos) s2)=res from hres);have hw:=hid gs;have gu:=h.lt;have hC:=hC.mono (Y:=fun b=>X b/\b<w.heap.size) (fun b hb M=>⟨hb,M⟩);have h5:=hF.g;clear hres gs hv;have gj:Below w w (((w.alloc (.cells #[E.R] 112)).alloc (.cells (nv x A cp) 41)).alloc (.cells bg 41)):=bel;have gl:aa (((w.alloc (.cells #[E.R] 112)).alloc (.cells (nv x A cp) 41)).alloc (.cells bg 41)) w.heap.size 112 #[E.R]:=((aa.new w _ _).alloc _).alloc _;have gx:aa (((w.alloc (.cells #[E.R] 112)).alloc (.cells (nv x A cp) 41)).alloc (.cells bg 41)) (w.heap.size+1) 41 (nv x A cp):=(aa.new_at (by simp) _ _).alloc _;have ha:aa (((w.alloc (.cells #[E.R] 112)).alloc (.cells (nv x A cp) 41)).alloc (.cells bg 41)) (w.heap.size+1+1) 41 bg:=aa.new_at (by simp) _ _;have gb:=(au.refl h).step gj;(have h3:w.heap.size+3<=(((w.alloc (.cells #[E.R] 112)).alloc (.cells (nv x A cp) 41)).alloc (.cells bg 41)).heap.size:=by simp);have hC:=hC.keep (w':=((w.alloc (.cells #[E.R] 112)).alloc (.cells (nv x A cp) 41)).alloc (.cells bg 41)) (fun b _ M=>gj.block b M);clear gj;(go_enter func320,ntmps320);(go_upto_region 1 with fail);change Code.wp _ _ _ _ (((w.alloc (.cells #[E.R] 112)).alloc (.cells (nv x A cp) 41)).alloc (.cells bg 41));generalize((w.alloc (.cells #[E.R] 112)).alloc (.cells (nv x A cp) 41)).alloc (.cells bg 41)=w1 at *;have c0:=IS gl;go_wp2_with fail;cases hA:aR E.c s ⟨#[123]⟩with
 |false=>refine(dN E s _ _ gb.rd hA).mono ?_;rintro e y⟨rfl,hp⟩;unfold ag;exact⟨rfl,yY (by rw[<-gd.out,need];simp[hA]) gb.gr (ac _ hp)⟩
 | true=>
  have HE:=hid (show(bZ (aU F.expr ⟨#[125]⟩ F.g []) E.c (am s)).bind (fun l s2=>.ok (.mk 24 ⟨#[]⟩ (x::l) x.pos) s2)=res by rw[<-gd.out,need];simp only[hA,kS,d5.bind_ok]);refine(cW E s _ _ gb.rd hA).mono ?_;rintro e y⟨rfl,J⟩;have hf:=gl.grown J.gr;have gw:=gx.grown J.gr;have g9:=ha.grown J.gr;have g1:=gb.trans J;have h2:=J.gr.size;have hC:=hC.keep (w':=y) (ak.of_grown (X:=fun b=>X b/\b<w.heap.size) J.gr (fun g e hX=>by injection e with e;subst e;exact gv hX.1)).block;clear gd hA gl gx ha gb J c0;obtain⟨x0,x1,x2,x3,-,-,-,-⟩:=ah gw;go_wp2_with fail;refine(aI _ _ _ _ _ ⟨_,_,_,rfl⟩).mono ?_;rintro e z⟨rfl,ge⟩;have I:Below y y z:=((gC _ y).alloc (gA _) _).trans (ge.mono (by simp));have g5:=(aa.new y 41 (nv x A cp)).below ge (by simp);have he:=hf.bl I;have g8:=g9.bl I;have g0:=g1.step I;(have h1:y.heap.size+1<=z.heap.size:=by have:=ge.size;simp at this;omega);have hC:=hC.keep (w':=z) (fun b _ M=>I.block b M);clear ge I hf g9 gw g1 x0 x1 x2 x3;(go_upto_region 3 with fail);have D:=(cH z #[.int .i64 24,.string ⟨#[]⟩,.slice (some ⟨y,0,none⟩) 1 1,.int .i64 x.pos]).1;have gk:=aa.new z 41 #[.int .i64 24,.string ⟨#[]⟩,.slice (some ⟨y,0,none⟩) 1 1,.int .i64 x.pos];have g4:=g5.bl D;have hc:=he.bl D;have g7:=g8.bl D;have gh:=g0.step D;have hC:=hC.keep (w':=z.alloc (.cells #[.int .i64 24,.string ⟨#[]⟩,.slice (some ⟨y,0,none⟩) 1 1,.int .i64 x.pos] 41)) (fun b _ M=>D.block b M);(have h0:z.heap.size+1<=(z.alloc (.cells #[.int .i64 24,.string ⟨#[]⟩,.slice (some ⟨y,0,none⟩) 1 1,.int .i64 x.pos] 41)).heap.size:=by simp);clear g5 he g8 g0 D;generalize hKK:y.heap.size=K at *;generalize hOO:z.heap.size=O at *;change Code.wp _ _ _ _ (z.alloc (.cells #[.int .i64 24,.string ⟨#[]⟩,.slice (some ⟨K,0,none⟩) 1 1,.int .i64 x.pos] 41));generalize z.alloc (.cells #[.int .i64 24,.string ⟨#[]⟩,.slice (some ⟨K,0,none⟩) 1 1,.int .i64 x.pos] 41)=w6 at *;clear hKK hOO;(have g2:K≠O:=by omega);(have hr:K≠E.R:=by omega);(have hq:O≠E.R:=by omega);(have gy:O≠w.heap.size+1+1:=by omega);(have g3:K≠w.heap.size+1+1:=by omega);have hg:Hid (ui E 323 (#[] ++ #[.pointer (some ⟨w,0,none⟩)]) (aU F.expr ⟨#[125]⟩ F.g []) w6.drew):=hid (IR E F hF w.heap.size w6.drew (show w6.drew.cell? ⟨w,0,none⟩=_ from IS hc) (by omega));(have gi:∀a w,(callFunc 323 a).run prog w=.ok (.enter 323 a) w:=fun a w=>by kernel_rfl);have hh:=hid gi;clear gi;have c0:=IS hc;obtain⟨x0,x1,x2,x3,gq,gp,gn,gm⟩:=ah gk;cases hQ:bZ (aU F.expr ⟨#[125]⟩ F.g []) E.c (am s)with
  |out=>exact absurd HE.out.symm (by rw[hQ];exact hw.out)
  |fail q=>have HF:Hid (res=.fail q):=hid (by rw[<-HE.out,hQ];rfl);let SS:World->Prop:=fun w'=>w'.cell? ⟨O,2,none⟩=some (.slice (some ⟨K,0,none⟩) 1 1)/\w'.cell? ⟨w,0,none⟩=some (.pointer (some ⟨E.R,0,none⟩));have hu:SS w6.drew:=⟨x2,c0⟩;(refine jS (S:=SS) (by kernel_rfl) hu ?_;intro gg;refine dF 0 gg ?_;refine dF 1 gg ?_;refine dF 2 gg ?_;refine dF 3 gg ?_;refine yd 4 fun K hK=>?_;go_simp);refine(lD E 323 #[] #[w] (aU F.expr ⟨#[125]⟩ F.g []) (am s) _ gh.drew.rd hh.out hg.out (by rw[hQ];exact nofun)).mono ?_;rw[hQ];rintro e w7⟨rfl,ho⟩;unfold ag;exact⟨rfl,yY HF.out gh.drew.gr ho⟩
  | ok l s2=>
   have HF:Hid (res=.ok (.mk 24 ⟨#[]⟩ (x::l) x.pos) s2):=hid (by rw[<-HE.out,hQ];rfl);have h4:=rH hQ;have HC:=hid (lD E 323 #[] #[w] (aU F.expr ⟨#[125]⟩ F.g []) (am s) _ gh.drew.rd hh.out hg.out (by rw[hQ];exact nofun));rw[hQ]at HC;obtain⟨i0,hi,hl,hk,hj⟩:=qr pw;clear HE hQ;go_region_law (first
    |(refine dt _ (by rfl) (.tmp 14) (.tmp 17) 39 (by rfl) K 41 i0 _ 4 56 underlying39 hi hl hk hj (by rfl) (by omega) (.slice (some ⟨K,0,none⟩) 1 1) 1 [.int .i64 x.kind,.string x.text,.slice A x.kids.length cp,.int .i64 x.pos] (by rfl) (oP ht (gA _)) w7.heap.size A7 l.length c7 ys (by rfl) (oO hn (by omega)) (iL gt) (by unfold maxLen;omega) (by omega) (by omega) ?_;intro v8 w8 hown8 hg8 hat8;obtain⟨A8,c8,rfl,h6⟩:=rI hown8;have hs:=gz.grown hg8 (fun e=>g2 (by simpa[Value.ownBlock]using e.symm));obtain⟨x0,x1,x2,x3,gq,gp,gn,gm⟩:=ah hs)
    |(go_simp;(go_at_call 315);refine HC.out.mono ?_;rintro e w7⟨⟨v7,rfl,hm⟩,ga⟩;obtain⟨A7,c7,ys,rfl,hy,hn,gt⟩:=hm;have gz:=gk.drew.grown ga.gr (fun e=>hq (by injection e));have ht:=g4.drew.grown ga.gr (fun e=>hr (by injection e));have hz:w6.heap.size<=w7.heap.size:=ga.gr.size;obtain⟨x0,x1,x2,x3,gq,gp,gn,gm⟩:=ah gz))
   all_goals have hN:=Gb (G:=w.heap.size+1+1) (u:=.slice A8 (1+l.length) c8) (o:=2) gh hC gv gu (by omega) g4.lt gk.lt (by omega) g2 g7.lt (by omega) g3 gy ga gt hown8 hg8 hat8 24 ⟨#[]⟩ x.pos;have g6:=((g7.drew.grown ga.gr).grown hg8 (fun e=>g3 (by simpa[Value.ownBlock]using e.symm))).far (p:=⟨O,2,none⟩) (by exact gy.symm) (.slice A8 (1+l.length) c8);obtain⟨d0,d1,d2,d3,e0,e1,e2,e3⟩:=ah g6;go_wp2_with fail;refine Ga HF.out hN.1 hN.2 g6 (by omega) (by omega) ?_ rfl (by rfl) rfl;intro b hb;exact⟨hb.1,hb.2.1⟩
def Pz(E:bC)(F:eQ):Prop:=
 ∀ (w0 w:World)(s:St)(x:Nd)(v:Value),E.R<w0.heap.size->w0.grownBy w (some E.R)->aH E w s->aq (fun b=>w0.heap.size<=b) w v x->cI F x E.c s≠.out ->
   Calls prog 320 #[E.R,v] w (sS E w0 w (cI F x E.c s))
theorem tm(E:bC)(F:eQ)(hF:mC E F):Pz E F:=fun w0 w s x v hR0 hgr0 h hv hno=>
 (nw E F hF (fun b=>w0.heap.size<=b) (by omega) w s x v h hv hno).mono fun e w' hp=>by
  cases D:cI F x E.c s with
  |ok n s1=>rw[D]at hp;obtain⟨⟨v,M,J⟩,I⟩:=hp;have:=hgr0.size;exact⟨⟨v,M,J.mono fun b hb _=>by rcases hb with hb|hb;(exact hb);(show w0.heap.size<=b;omega)⟩,I⟩
  |fail p=>rw[D]at hp;exact hp
  |out=>exact absurd D hno
end
end Go.Proofs.YtcoiialmdncpfaaGreatDoor
