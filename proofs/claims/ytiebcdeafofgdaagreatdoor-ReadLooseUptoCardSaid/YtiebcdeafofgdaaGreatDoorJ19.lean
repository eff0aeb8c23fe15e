/-
  Parts of the proof: Sscan Scan2 Ldig. By an AI agent.
-/
import Derived.Test.YtiebcdeafofgdaaGreatDoorJ18
import Derived.Test.YtiebcdeafofgdaaGreatDoorJ02
import Derived.Test.YtiebcdeafofgdaaGreatDoorJ01
import Derived.Deep.RegionLaw
open Go.Proofs.Tryz
set_option maxRecDepth 100000
set_option maxHeartbeats 8000000
namespace Go.Proofs.YtiebcdeafofgdaaGreatDoor
section
open Go.RowKit Go.Lib Go.Proofs
attribute [local go_sem ↓] Go.wp_at_zero Go.wp_at_succ
theorem gO:type_of% @List.append_assoc:=@List.append_assoc
theorem kG:type_of% @List.append_nil:=@List.append_nil
theorem qd:type_of% @Go.leaves_cons:=@Go.leaves_cons
theorem Gk(p q r:Addr)(w:World):
  CallsD prog 72 #[.pointer (some p),.pointer (some q),.pointer (some r)] .returning w fun e u' w'=>e=.returned (.tuple #[])/\u'=.returning/\w'=w:=by
 refine callsD_of_wpS func72 rfl fun c₀ cs D=>?_;apply wpS_seq;apply vp;simp[wpOpsS,go_sem,recoverD,D,ntmps72,Exit.thenS];apply wpS_seq;apply vp;simp[wpOpsS,go_sem,Exit.thenS];refine wpS_cond (t:=false) (by simp[Act.eval,Array.replicate]) ?_;simp only[jC,kI];refine wpS_of_wp (wp_skip ?_);cases c₀
 simp_all[bodyPostS,results,results72]
def Rm(Q:Exit->Act->World->Prop):Exit->Act->World->Prop:=fun x a w=>match x with
 | .normal=>Q .normal a w
 |_=>False
theorem I7{P:Program}{c:Code}{Q:Exit->Act->World->Prop}{a:Act}{w:World}(h:c.wp P (Rm Q) a w):c.wp P Q a w:=
 Code.wp_mono (fun e a w h=>by
  cases e with
  |normal=>exact h
  |_=>exact h.elim) h
def oR(s0:ByteArray)(w:World)(r:uw)(e:Ending)(w':World):Prop:=
 match r with
 | .toks L=>∃X i,e=.returned (.tuple #[.pointer (some ⟨X,0,none⟩),.int .i64 0,.int .i64 0])/\f6 w' X s0 i L/\w.heap.size<=X/\Below w w w'
 | .err p n=>e=.returned (.tuple #[.pointer none,.int .i64 p,.int .i64 n])/\Below w w w'
theorem I8(A:Option Addr)(c:Nat)(s:ByteArray)(w:World)(hv:fT w A c s)(hT:lF w)(ho:s.size<=1000000000):
  Calls prog 43 #[.slice A s.size c] w (oR s w (fy s)):=by
 have jb:∀(fn:Fn)(first cap:Array Value)(w:World),(Instr.makeFunc fn first cap).run prog w=.ok (.func fn first cap) w:=fun _ _ _ _=>rfl;have gt:Below w w (((w.alloc (.cells #[.pointer none] 63)).alloc (.cells #[.int .i64 0] 3)).alloc (.cells #[.int .i64 0] 29)):=bel;have gs:an (((w.alloc (.cells #[.pointer none] 63)).alloc (.cells #[.int .i64 0] 3)).alloc (.cells #[.int .i64 0] 29)) w.heap.size 63 #[.pointer none]:=((an.new w _ _).alloc _).alloc _;have gr:an (((w.alloc (.cells #[.pointer none] 63)).alloc (.cells #[.int .i64 0] 3)).alloc (.cells #[.int .i64 0] 29)) (w.heap.size+1) 3 #[.int .i64 0]:=(an.new_at (by simp) _ _).alloc _;have gp:an (((w.alloc (.cells #[.pointer none] 63)).alloc (.cells #[.int .i64 0] 3)).alloc (.cells #[.int .i64 0] 29)) (w.heap.size+2) 29 #[.int .i64 0]:=an.new_at (by simp) _ _;have HW:=hid (fun w'(ge:Below w w w')=>(hv.below ge).wrong (hT.below ge) ho);have hp:=hid (fun w'(ge:Below w w w')=>(hv.below ge).conv);have HT:=hid hT;generalize hO:fy s=O at *;have HO:=hid hO;clear hT hv hO;by_cases I:65536<s.size
 ·(have hn:decide ((65536:Int)<(s.size:Int))=true:=by rw[gK];omega);have hj:Hid (O=.err 65536 12):=hid (by rw[<-HO.out,fy,gF I]);have x0:=a7 gs;have y0:=a7 gr;have z0:=a7 gp;have xf:=gs.frozen 0;have yf:=gr.frozen 0;have zf:=gp.frozen 0;clear I;(go_enter_defers func43,ntmps43);go_wp2_with fail;rw[hj.out];clear x0 y0 z0 xf yf zf;simp[bodyPostD,Leaves,results,results43,go_sem,oR];exact bel
 (have hm:s.size<=65536:=by omega);(have hn:decide ((65536:Int)<(s.size:Int))=false:=by rw[gJ];omega);cases gm:lq s with
 |some p=>have hj:Hid (O=.err (p:Int) 2):=hid (by rw[<-HO.out,fy,d5 I,gm]);rw[gm]at HW;(have jg:decide ((0:Int)<=(p:Int))=true:=by rw[gK];omega);clear HO gm I;(go_enter_defers func43,ntmps43);go_wp2_with fail;refine(HW.out _ gt).mono ?_;rintro e w1⟨rfl,J⟩;unfold sL;(have gb:(((w.alloc (.cells #[.pointer none] 63)).alloc (.cells #[.int .i64 0] 3)).alloc (.cells #[.int .i64 0] 29)).heap.size=w.heap.size+3:=by simp);have gi:=gs.below J (by rw[gb];omega);have gq:=gr.below J (by rw[gb];omega);have gn:=gp.below J (by rw[gb];omega);have g1:=aD gt J;have x0:=a7 gi;have y0:=a7 gq;have z0:=a7 gn;have xf:=gi.frozen 0;have yf:=gq.frozen 0;have zf:=gn.frozen 0;clear gs gr gp J gt gb;simp only;go_wp2_with fail;have M:an (((w1.setCell ⟨w,0,none⟩ (.pointer none)).setCell ⟨w.heap.size+1,0,none⟩ (.int .i64 (p:Int))).setCell ⟨w.heap.size+1+1,0,none⟩ (.int .i64 2)) w.heap.size 63 #[.pointer none]:=((show an (w1.setCell ⟨w,0,none⟩ (.pointer none)) w.heap.size 63 #[.pointer none]by simpa using gi.set_ 0 (.pointer none)).far (p:=⟨w.heap.size+1,0,none⟩) (by show w.heap.size≠w.heap.size+1;omega) (.int .i64 (p:Int))).far (p:=⟨w.heap.size+1+1,0,none⟩) (by show w.heap.size≠w.heap.size+1+1;omega) (.int .i64 2);have U:an (((w1.setCell ⟨w,0,none⟩ (.pointer none)).setCell ⟨w.heap.size+1,0,none⟩ (.int .i64 (p:Int))).setCell ⟨w.heap.size+1+1,0,none⟩ (.int .i64 2)) (w.heap.size+1) 3 #[(p:Int)]:=(show an ((w1.setCell ⟨w,0,none⟩ (.pointer none)).setCell ⟨w.heap.size+1,0,none⟩ (.int .i64 (p:Int))) (w.heap.size+1) 3 #[(p:Int)]by simpa using(gq.far (p:=⟨w,0,none⟩) (by show w.heap.size+1≠w.heap.size;omega) (.pointer none)).set_ 0 (.int .i64 (p:Int))).far (p:=⟨w.heap.size+1+1,0,none⟩) (by show w.heap.size+1≠w.heap.size+1+1;omega) (.int .i64 2);(have N:an (((w1.setCell ⟨w,0,none⟩ (.pointer none)).setCell ⟨w.heap.size+1,0,none⟩ (.int .i64 (p:Int))).setCell ⟨w.heap.size+1+1,0,none⟩ (.int .i64 2)) (w.heap.size+2) 29 #[.int .i64 2]:=by simpa using((gn.far (p:=⟨w,0,none⟩) (by show w.heap.size+2≠w.heap.size;omega) (.pointer none)).far (p:=⟨w.heap.size+1,0,none⟩) (by show w.heap.size+2≠w.heap.size+1;omega) (.int .i64 (p:Int))).set_ 0 (.int .i64 2));have ga:Below w w (((w1.setCell ⟨w,0,none⟩ (.pointer none)).setCell ⟨w.heap.size+1,0,none⟩ (.int .i64 (p:Int))).setCell ⟨w.heap.size+1+1,0,none⟩ (.int .i64 2)):=((g1.setCell (p:=⟨w,0,none⟩) (gA _) _).setCell (p:=⟨w.heap.size+1,0,none⟩) (jZ _) _).setCell (p:=⟨w.heap.size+1+1,0,none⟩) (show w.heap.size<=w.heap.size+1+1 by omega) _;generalize((w1.setCell ⟨w,0,none⟩ (.pointer none)).setCell ⟨w.heap.size+1,0,none⟩ (.int .i64 (p:Int))).setCell ⟨w.heap.size+1+1,0,none⟩ (.int .i64 2)=w2 at *;clear x0 y0 z0 xf yf zf;have z0:=a7 M;have z1:=a7 U;have z2:w2.cell? ⟨w.heap.size+1+1,0,none⟩=some (.int .i64 2):=a7 N;rw[hj.out];simp[bodyPostD,Leaves,results,results43,go_sem,z0,z1,z2,oR];exact ga
 |none=>
 have HS:Hid (BX (dG s (s.size+1) 0 [])=O):=hid (by rw[<-HO.out,fy,d5 I,gm]);rw[gm]at HW;clear HO gm I;(go_enter_defers func43,ntmps43);go_wp2_with fail;refine(HW.out _ gt).mono ?_;rintro e w1⟨rfl,J⟩;unfold sL;(have gb:(((w.alloc (.cells #[.pointer none] 63)).alloc (.cells #[.int .i64 0] 3)).alloc (.cells #[.int .i64 0] 29)).heap.size=w.heap.size+3:=by simp);have gi:=gs.below J (by rw[gb];omega);have gq:=gr.below J (by rw[gb];omega);have gn:=gp.below J (by rw[gb];omega);have hq:=J.size;rw[gb]at hq;have g1:=aD gt J;clear gs gr gp J gt gb;have ht:=hp.out _ g1;have x0:=a7 (gi.alloc (.cells #[s,.int .i64 0,.slice none 0 0,.slice none 0 0] 67));have xf:=(gi.alloc (.cells #[s,.int .i64 0,.slice none 0 0,.slice none 0 0] 67)).frozen 0;go_wp2_with fail;(have M:an ((w1.alloc (.cells #[s,.int .i64 0,.slice none 0 0,.slice none 0 0] 67)).setCell ⟨w,0,none⟩ (.pointer (some ⟨w1,0,none⟩))) w.heap.size 63 #[w1]:=by simpa using(gi.alloc _).set_ 0 _);have U:an ((w1.alloc (.cells #[s,.int .i64 0,.slice none 0 0,.slice none 0 0] 67)).setCell ⟨w,0,none⟩ (.pointer (some ⟨w1,0,none⟩))) (w.heap.size+1) 3 #[.int .i64 0]:=(gq.alloc _).far (p:=⟨w,0,none⟩) (by show w.heap.size+1≠w.heap.size;omega) _;have N:an ((w1.alloc (.cells #[s,.int .i64 0,.slice none 0 0,.slice none 0 0] 67)).setCell ⟨w,0,none⟩ (.pointer (some ⟨w1,0,none⟩))) (w.heap.size+2) 29 #[.int .i64 0]:=(gn.alloc _).far (p:=⟨w,0,none⟩) (by show w.heap.size+2≠w.heap.size;omega) _;have ga:Below w w ((w1.alloc (.cells #[s,.int .i64 0,.slice none 0 0,.slice none 0 0] 67)).setCell ⟨w,0,none⟩ (.pointer (some ⟨w1,0,none⟩))):=(g1.alloc (by omega) _).setCell (gA _) _;have g4:f6 ((w1.alloc (.cells #[s,.int .i64 0,.slice none 0 0,.slice none 0 0] 67)).setCell ⟨w,0,none⟩ (.pointer (some ⟨w1,0,none⟩))) w1.heap.size s 0 []:=
  ⟨⟨.slice none 0 0,.slice none 0 0,[],(an.new w1 _ _).far (p:=⟨w,0,none⟩) (by show w1.heap.size≠w.heap.size;omega) _,i7.nil _ _,i7.nil _ _,(fun g h=>by cases h),gA _⟩,gP _,hm,by simp⟩
 generalize(w1.alloc (.cells #[s,.int .i64 0,.slice none 0 0,.slice none 0 0] 67)).setCell ⟨w,0,none⟩ (.pointer (some ⟨w1,0,none⟩))=w2 at *;generalize w1.heap.size=X at *;clear gi gq gn g1 x0 xf ht hp HW;go_loopg [28] s.size (fun gg _ wr=>∃(i f:Nat)(l:List cO),f6 wr X s i l/\an wr w.heap.size 63 #[X]/\an wr (w.heap.size+1) 3 #[.int .i64 0]/\an wr (w.heap.size+2) 29 #[.int .i64 0]/\Below w w wr /\
  BX (dG s f i l)=O/\lR i l/\s.size-i+1<=f/\s.size-i<=gg)
 case atStart=>exact⟨0,s.size+1,[],g4,M,U,N,ga,HS.out,⟨gA _,fun t h=>by cases h⟩,by omega,by omega⟩
 case round=>
  clear g4 M U N ga;obtain⟨i,f,l,g3,M,U,N,ga,gl,gd,hf,jf⟩:=hrel;have jc:=g3.le;obtain⟨lv,nv,ns,he⟩:=g3.out;obtain⟨x0,x1,x2,x3,-,-,-,-⟩:=ab he.blk;have y0:=a7 M;obtain⟨f1,rfl⟩:∃f1,f=f1+1:=⟨f-1,by omega⟩;unfold dG at gl;by_cases hi:i<s.size
  ·rw[gF hi]at gl;(have hr:(i:Int)<(s.size:Int):=by omega);have g6:=hid gl;have g5:=hid (fun w'(ge:Below wr wr w')(g8:Below w w w')=>DF X s i l w' (g3.below ge) (HT.out.below g8).tab hi gd);have g2:=hid (rP s i l hm hi gd);clear gl he gd;cases yk:ey s i l with
   |go j l'=>
    obtain⟨je,jd,gu⟩:=g2.out j l' yk;have HF:Hid (BX (dG s f1 j l')=O):=hid (by rw[<-g6.out,yk]);rw[yk]at g5;have h8:=hid gu;clear yk g6 g2 gu;go_wp2_with fail;go_quiet (fail);have gv:=bg (gG wr.heap.size wr) nq;have gj:=bg ga nq;have gh:=M.drewN nq;have gz:=U.drewN nq;have gx:=N.drewN nq;have y3:=a7 gh;generalize wr.drewN nq=w3 at *;clear x0 x1 x2 x3 y0 M U N ga;go_wp2_with fail;refine(g5.out _ gv gj).mono ?_;rintro e w4⟨rfl,g7,D⟩;go_wp2_with fail;go_roundg (s.size-j)
    case measure=>omega
    case rel=>exact⟨j,f1,l',g7,gh.below D (by omega),gz.below D (by omega),gx.below D (by omega),gj.trans (D.mono (by omega)),HF.out,h8.out,by omega,gA _⟩
   |bad p=>have HF:Hid (O=.err (p:Int) 3):=hid (by rw[<-g6.out,yk];rfl);rw[yk]at g5;clear yk g6 g2;go_wp2_with fail;go_quiet (fail);have gv:=bg (gG wr.heap.size wr) nq;have gj:=bg ga nq;have gh:=M.drewN nq;have gz:=U.drewN nq;have gx:=N.drewN nq;have y3:=a7 gh;generalize wr.drewN nq=w3 at *;clear x0 x1 x2 x3 y0 M U N ga;go_wp2_with fail;refine(g5.out _ gv gj).mono ?_;rintro e w4⟨rfl,D⟩;have g0:=gh.below D (by omega);have gy:=gz.below D (by omega);have gw:=gx.below D (by omega);have hh:=gj.trans (D.mono (by omega));unfold fb;refine qd (f:=72) (args:=#[w,.pointer (some ⟨w.heap.size+1,0,none⟩),.pointer (some ⟨w.heap.size+1+1,0,none⟩)]) (by simp) (by simp[go_sem]) ?_;refine(DG w.heap.size w.heap.size (w.heap.size+1) (w.heap.size+2) p _ _ _ w4 g0 gy gw (gA _) (by omega) (by omega) (by omega) (by omega) (by omega)).mono ?_;rintro e u' w5⟨rfl,rfl,hc,ha,g9,hg⟩;have z0:=a7 hc;have z1:=a7 ha;have z2:w5.cell? ⟨w.heap.size+1+1,0,none⟩=some (.int .i64 3):=a7 g9;rw[HF.out];simp[Leaves,settle,results,results43,go_sem,z0,z1,z2,oR];exact hh.trans hg
  ·rw[d5 hi]at gl;have HF:=hid (show O=.toks (dY l (s.size:Int))from gl.symm);(have hl:l.length+1<=65537:=by have:=gd.1;omega);(have hr:¬ (i:Int)<(s.size:Int):=by omega);have hk:=gd.2;have h7:=hid (fun w'(ge:Below wr wr w')(g8:Below w w w')=>uq X s i l (s.size:Int) hl w' (g3.below ge) (HT.out.below g8).tab hk);clear gl he hk gd;go_wp2_with fail;go_quiet (fail);have gv:=bg (gG wr.heap.size wr) nq;have gj:=bg ga nq;have gh:=M.drewN nq;have gz:=U.drewN nq;have gx:=N.drewN nq;have y3:=a7 gh;have ja:(wr.drewN nq).cell? ⟨X,0,none⟩=some (.string s):=x0;generalize wr.drewN nq=w3 at *;clear x0 x1 x2 x3 y0 M U N ga;go_wp2_with fail;refine I7 ?_;go_region_law (first
    |(go_simp;go_at_call 74;refine(h7.out _ gv.drew gj.drew).mono ?_;rintro e w4⟨rfl,g7,D⟩;have g0:=gh.drew.below D (by omega);have y4:=a7 g0))
   all_goals unfold Rm;have gy:=gz.drew.below D (by omega);have gw:=gx.drew.below D (by omega);have hh:=gj.drew.trans (D.mono (by omega));have yf:=g0.frozen 0;have u4:=a7 gy;have uf:=gy.frozen 0;have v4:=a7 gw;have vf:=gw.frozen 0;go_wp2_with fail;(have hc:an (w4.setCell ⟨w,0,none⟩ (.pointer (some ⟨X,0,none⟩))) w.heap.size 63 #[X]:=by simpa using g0.set_ 0 (.pointer (some ⟨X,0,none⟩)));have ha:=gy.far (p:=⟨w,0,none⟩) (by show w.heap.size+1≠w.heap.size;omega) (.pointer (some ⟨X,0,none⟩));have g9:=gw.far (p:=⟨w,0,none⟩) (by show w.heap.size+2≠w.heap.size;omega) (.pointer (some ⟨X,0,none⟩));have h4:∀b,X<=b->(w4.setCell ⟨w,0,none⟩ (.pointer (some ⟨X,0,none⟩))).heap[b]? = w4.heap[b]? :=fun b hb=>jN w4 ⟨w,0,none⟩ _ b (by show b≠w.heap.size;omega);have hg:=hh.setCell (p:=⟨w,0,none⟩) (gA _) (.pointer (some ⟨X,0,none⟩));generalize w4.setCell ⟨w,0,none⟩ (.pointer (some ⟨X,0,none⟩))=w5 at *;(have hz:an (w5.setCell ⟨w.heap.size+1,0,none⟩ (.int .i64 0)) (w.heap.size+1) 3 #[.int .i64 0]:=by simpa using ha.set_ 0 (.int .i64 0));have h1:=hc.far (p:=⟨w.heap.size+1,0,none⟩) (by show w.heap.size≠w.heap.size+1;omega) (.int .i64 0);have hw:=g9.far (p:=⟨w.heap.size+1,0,none⟩) (by show w.heap.size+2≠w.heap.size+1;omega) (.int .i64 0);have h3:∀b,X<=b->(w5.setCell ⟨w.heap.size+1,0,none⟩ (.int .i64 0)).heap[b]? = w4.heap[b]? :=fun b hb=>(jN w5 ⟨w.heap.size+1,0,none⟩ _ b (by show b≠w.heap.size+1;omega)).trans (h4 b hb);have h6:=hg.setCell (p:=⟨w.heap.size+1,0,none⟩) (jZ _) (.int .i64 0);generalize w5.setCell ⟨w.heap.size+1,0,none⟩ (.int .i64 0)=w6 at *;(have hu:an (w6.setCell ⟨w.heap.size+1+1,0,none⟩ (.int .i64 0)) (w.heap.size+2) 29 #[.int .i64 0]:=by simpa using hw.set_ 0 (.int .i64 0));have h0:=h1.far (p:=⟨w.heap.size+1+1,0,none⟩) (by show w.heap.size≠w.heap.size+1+1;omega) (.int .i64 0);have hy:=hz.far (p:=⟨w.heap.size+1+1,0,none⟩) (by show w.heap.size+1≠w.heap.size+1+1;omega) (.int .i64 0);have h2:∀b,X<=b->(w6.setCell ⟨w.heap.size+1+1,0,none⟩ (.int .i64 0)).heap[b]? = w4.heap[b]? :=fun b hb=>(jN w6 ⟨w.heap.size+1+1,0,none⟩ _ b (by show b≠w.heap.size+1+1;omega)).trans (h3 b hb);have h5:=h6.setCell (p:=⟨w.heap.size+1+1,0,none⟩) (show w.heap.size<=w.heap.size+1+1 by omega) (.int .i64 0);generalize w6.setCell ⟨w.heap.size+1+1,0,none⟩ (.int .i64 0)=w7 at *;have g4:=g7.keep h2;refine qd (f:=72) (args:=#[w,.pointer (some ⟨w.heap.size+1,0,none⟩),.pointer (some ⟨w.heap.size+1+1,0,none⟩)]) (by simp) (by simp[go_sem]) ?_;refine(Gk _ _ _ _).mono ?_;rintro e u' w8⟨rfl,rfl,rfl⟩;have z0:=a7 h0;have z1:=a7 hy;have z2:w8.cell? ⟨w.heap.size+1+1,0,none⟩=some (.int .i64 0):=a7 hu;clear y4 u4 v4 yf uf vf;rw[HF.out];simp[Leaves,settle,results,results43,go_sem,z0,z1,z2,oR];exact⟨⟨i,g4⟩,by omega,h5⟩
theorem i7.reads{B:Nat}{w:World}{v:Value}{l:List cO}(h:i7 B w v l):∃A c,v=.slice A l.length c/\l.length<=c/\bZ w w.heap.size 3 A l.length (l.flatMap ng):=by
 obtain⟨A,c,I,J⟩:=h.form;refine⟨A,c,I,J,?_⟩;by_cases U:l.length=0
 ·exact⟨by rw[oH fu],fun N=>by omega⟩
 ·obtain⟨g,c',D,O,M⟩:=qY h (by omega);rw[I]at D;injection D with e1 e2 e3;subst e1 e3;exact bZ.of_own (I▸h:w.ownsRow B _ 3 (.slice (some ⟨g,0,none⟩) l.length c) l.length (l.flatMap ng))
theorem Gl{w:World}{A:Option Addr}{B n R:Nat}{xs:List Value}(h:bZ w B 3 A n xs)(O:B<=R):eW (· < R) w 3 A n xs:=by
 refine⟨h.1,fun M=>?_⟩;obtain⟨ad,U,hb,J⟩:=h.2 M;(have N:0<xs.length:=by rw[h.1];omega);have h0:=J 0 xs[0] (gN N);have D:=nM (show w.cell? ad=some xs[0]from h0);obtain⟨b,o,s⟩:=ad;(have I:s=none:=by simpa using D);subst I;refine⟨b,o,U,kH hb O,fun j u hu=>?_⟩;have:=J j u hu
 rwa [oI]at this
theorem sO{s:ByteArray}{p n:Int}(h:fy s=.err p n):n=12\/n=2\/n=3:=by
 unfold fy at h;split at h
 ·injection h with _ h;exact .inl h.symm
 ·split at h
  ·injection h with _ h;exact .inr (.inl h.symm)
  ·cases hs:dG s (s.size+1) 0 []with
   |ok l=>rw[hs]at h;cases h
   |bad q=>rw[hs]at h;injection h with _ h;exact .inr (.inr h.symm)
def OL(w:World)(r:uw)(e:Ending)(w':World):Prop:=
 match r with
 | .toks L=>∃A cp,e=.returned (.tuple #[.slice A L.length cp,.int .i64 0,.int .i64 0])/\L.length<=cp/\L.length<=65537/\bZ w' w'.heap.size 3 A L.length (L.flatMap ng)/\Below w w w'
 | .err p n=>e=.returned (.tuple #[.slice none 0 0,.int .i64 p,.int .i64 n])/\Below w w w'
theorem B0(A:Option Addr)(c:Nat)(s:ByteArray)(w:World)(h:fT w A c s)(hT:lF w)(M:s.size<=1000000000):
  Calls prog 19 #[.slice A s.size c] w (OL w (fy s)):=by
 have O:=hid (I8 A c s w h hT M);clear h hT;cases N:fy s with
 |toks L=>rw[N]at O;clear N;(go_enter func19,ntmps19);go_wp2_with fail;refine O.out.mono ?_;rintro e w1⟨X,i,rfl,D,hX,hB⟩;obtain⟨lv,nv,ns,I⟩:=D.out;obtain⟨x0,x1,x2,x3,-,-,-,-⟩:=ab I.blk;obtain⟨A',cp,rfl,U,hr⟩:=I.toks.reads;have J:=D.few;clear D I O;go_wp2_with fail;go_ret3;exact⟨A',cp,rfl,U,J,hr,hB⟩
 |err p n=>have hn:=sO N;(have ga:(n != 0)=true:=by rw[kZ];omega);rw[N]at O;clear N hn;(go_enter func19,ntmps19);go_wp2_with fail;refine O.out.mono ?_;rintro e w1⟨rfl,hB⟩;go_wp2_with fail;go_ret3;exact⟨rfl,hB⟩
theorem rQ(s:ByteArray)(N:s.size<=65536):∀(f i:Nat)(l:List cO)(L:List cO),dG s f i l=.ok L->lR i l->i<=s.size->∀t∈L,t.text.size<=65536
 |0,_,_,_,h,_,_=>by cases h
 | f+1,i,l,L,h,D,hi=>by
  rw[dG]at h;by_cases M:i<s.size
  ·rw[gF M]at h;cases J:ey s i l with
   |go j l'=>rw[J]at h;obtain⟨_,U,O⟩:=rP s i l N M D j l' J;exact rQ s N f j l' L h O U
   |bad q=>rw[J]at h;cases h
  ·rw[d5 M]at h;injection h with h;subst h;intro t I;unfold dY at I;split at I
   ·rcases List.mem_append.1 I with I|I
    ·exact D.2 t I
    ·(obtain rfl:t=_:=by simpa using I);show(⟨#[10]⟩:BA).size<=65536;decide
   ·exact D.2 t I
theorem tz{s:ByteArray}{L:List cO}(h:fy s=.toks L):∀t∈L,t.text.size<=65536:=by
 unfold fy at h;split at h
 ·cases h
 ·split at h
  ·cases h
  ·cases hs:dG s (s.size+1) 0 []with
   |ok l=>rw[hs]at h;injection h with h;subst h;exact rQ s (by omega) _ _ _ _ hs ⟨gA _,fun t h=>by cases h⟩ (gP _)
   |bad q=>rw[hs]at h;cases h
def mW(c:Nat):Int:=match dD c with|some d=>(d:Int)|none =>-1
theorem fJ(c:Nat)(hc:c<2000000)(w:World):Calls prog 110 #[.int .i32 (c:Int)] w fun e w'=>e=.returned (.int .i64 (mW c))/\w=w':=by
 by_cases J:48<=c/\c<=57
 ·have I:Hid (mW c=(c:Int)-48):=hid (by unfold mW dD;rw[gF J];simp only;omega);(have O:decide ((48:Int)<=(c:Int))=true:=by rw[gK];omega);(have N:decide ((c:Int)<=(57:Int))=true:=by rw[gK];omega);have q1:IntKind.i32.wrap ((c:Int)-48)=(c:Int)-48:=qw _ (by omega);have q2:IntKind.i64.wrap ((c:Int)-48)=(c:Int)-48:=gQ _ (by omega);(go_enter func110,ntmps110);go_wp2_with fail;go_ret;exact⟨(by rw[I.out];first|done|rfl),rfl⟩
 (have D:(decide ((48:Int)<=(c:Int))&&decide ((c:Int)<=(57:Int)))=false:=by rw[Bool.and_eq_false_iff,gJ,gJ];omega);by_cases M:97<=c/\c<=102
 ·have I:Hid (mW c=(c:Int)-97+10):=hid (by unfold mW dD;rw[d5 J,gF M];simp only;omega);(have e0:decide ((48:Int)<=(c:Int))=true:=by rw[gK];omega);(have h:decide ((c:Int)<=(57:Int))=false:=by rw[gJ];omega);(have O:decide ((97:Int)<=(c:Int))=true:=by rw[gK];omega);(have N:decide ((c:Int)<=(102:Int))=true:=by rw[gK];omega);have q1:IntKind.i32.wrap ((c:Int)-97)=(c:Int)-97:=qw _ (by omega);have q2:IntKind.i64.wrap ((c:Int)-97)=(c:Int)-97:=gQ _ (by omega);have q3:IntKind.i64.wrap ((c:Int)-97+10)=(c:Int)-97+10:=gQ _ (by omega);clear D;(go_enter func110,ntmps110);go_wp2_with fail;go_ret;exact⟨(by rw[I.out];first|done|rfl),rfl⟩
 by_cases U:65<=c/\c<=70
 ·have I:Hid (mW c=(c:Int)-65+10):=hid (by unfold mW dD;rw[d5 J,d5 M,gF U];simp only;omega);(have e0:decide ((48:Int)<=(c:Int))=true:=by rw[gK];omega);(have h:decide ((c:Int)<=(57:Int))=false:=by rw[gJ];omega);(have O:decide ((97:Int)<=(c:Int))=false:=by rw[gJ];omega);(have N:decide ((65:Int)<=(c:Int))=true:=by rw[gK];omega);(have e3:decide ((c:Int)<=(70:Int))=true:=by rw[gK];omega);have q1:IntKind.i32.wrap ((c:Int)-65)=(c:Int)-65:=qw _ (by omega);have q2:IntKind.i64.wrap ((c:Int)-65)=(c:Int)-65:=gQ _ (by omega);have q3:IntKind.i64.wrap ((c:Int)-65+10)=(c:Int)-65+10:=gQ _ (by omega);clear D;(go_enter func110,ntmps110);go_wp2_with fail;go_ret;exact⟨(by rw[I.out];first|done|rfl),rfl⟩
 ·have I:Hid (mW c = -1):=hid (by unfold mW dD;rw[d5 J,d5 M,d5 U]);clear D;cases O:decide ((48:Int)<=(c:Int))<;>cases N:decide ((c:Int)<=(57:Int))<;>cases e3:decide ((97:Int)<=(c:Int))<;>cases e4:decide ((c:Int)<=(102:Int))<;>cases e5:decide ((65:Int)<=(c:Int))<;>cases e6:decide ((c:Int)<=(70:Int));all_goals
   first
    |(exfalso;simp only[gK,gJ]at O N e3 e4 e5 e6;omega)
    |(clear J M U;(go_enter func110,ntmps110);go_wp2_with fail;go_ret;exact⟨(by rw[I.out];first|done|rfl),rfl⟩)
def pK(B:Nat)(w:World)(v:Value)(l:List Nat):Prop:=w.ownsRow B 3 1 v l.length (l.map fun(d:Nat)=>Value.int .i64 (d:Int))
def DH(B:Nat)(w:World)(v:Value)(l:List UInt8):Prop:=w.ownsRow B 5 1 v l.length (l.map fun c=>Value.int .u8 (c.toNat:Int))
theorem B1{B:Nat}{w w':World}{e:TypeId}{n:Nat}{v:Value}{xs:List Value}(h:w.ownsRow B e 1 v n xs)(M:∀b,B<=b->b<w.heap.size->w'.heap[b]? = w.heap[b]?):w'.ownsRow B e 1 v n xs:=by
 refine⟨h.1,?_⟩;rcases h.2 with N|⟨g,cap,cur,e,J,I,r⟩
 ·exact .inl N
 ·refine .inr ⟨g,cap,cur,e,J,?_,r⟩;have D:g<w.heap.size:=by
   rcases kN g w.heap.size with D|hge
   ·exact D
   ·rw[kO hge]at I;cases I
  exact(M g J D).trans I
theorem py{B:Nat}{w:World}{e:TypeId}{n:Nat}{v:Value}{xs:List Value}(h:w.ownsRow B e 1 v n xs):∃A c,v=.slice A n c/\n<=c:=by
 rcases h.2 with⟨rfl,I⟩|⟨g,cap,cur,rfl,_,_,D,_⟩
 ·exact⟨none,0,by rw[I],by omega⟩
 ·exact⟨_,cap,rfl,D⟩
theorem OM:(prog.info? 3).map (fun i=>(i.zero,i.size,i.bytes))=some (some (.int .i64 0),1,8):=by kernel_rfl
theorem infoByte:(prog.info? 5).map (fun i=>(i.zero,i.size,i.bytes))=some (some (.int .u8 0),1,1):=by kernel_rfl
theorem As{ops:Array Oper}{rest:List Oper}{o:Oper}{a:Act}{Q:Exit->Act->World->Prop}(O:o.guard=none)(s x:Operand)
  (ho:o.op=.call { callee:=.builtin .append,args:=#[s,x],argTypes:=#[87,87] })
  (B:Nat)(w1:World)(u:Value)(l:List Nat)(d:Nat)(D:Int)(hs:a.eval s=u)(S:Nat)(hx:a.eval x=.slice (some ⟨S,0,none⟩) 1 1)(hS:w1.heap.size=S)(hD:D=(d:Int))
  (U:pK B w1 u l)(hB:B<=w1.heap.size)(hl:l.length<=1000000)
  (h:∀g c w2,pK B w2 (.slice (some ⟨g,0,none⟩) (l.length+1) c) (l++[d])->Below B w1 w2->wpList prog ops Q rest (a.put o.dst (.slice (some ⟨g,0,none⟩) (l.length+1) c)) w2):
  wpList prog ops Q (o::rest) a (w1.alloc (.cells #[D] 3)):=by
 subst hS hD;refine vy O fun _ hK=>?_;obtain⟨i0,hi,N,M,J⟩:=qO OM;refine vx _ s x 87 ho B 3 i0 _ 1 8 underlying87 hi N M J rfl (by omega) u l.length _ hs (vn U _) ⟨w1,0,none⟩ 1 1 [.int .i64 (d:Int)] hx rfl
  (qz (cs:=#[(d:Int)]) (qu _ _)) (by simp[Value.oneCell']) (by omega) (by unfold maxLen;omega) (by omega) (by rw[jL];omega) _ rfl ?_
 intro g c w2 hown1 I hat _;refine hK _ _ (h g c w2 ?_ ?_)
 ·unfold pK;rw[kT,gL];exact hown1
 ·have h1:=(gG B w1).alloc hB (.cells #[(d:Int)] 3);exact h1.trans ⟨I.os,I.tape,I.output,I.size,fun k hk=>I.block k (by rw[jL];omega) (fun e=>by have:=(vo U k e.symm).1;omega)⟩
theorem rR{ops:Array Oper}{rest:List Oper}{o:Oper}{a:Act}{Q:Exit->Act->World->Prop}(O:o.guard=none)(s x:Operand)
  (ho:o.op=.call { callee:=.builtin .append,args:=#[s,x],argTypes:=#[27,27] })
  (B:Nat)(w1:World)(u:Value)(l:List UInt8)(d:UInt8)(D:Int)(hs:a.eval s=u)(S:Nat)(hx:a.eval x=.slice (some ⟨S,0,none⟩) 1 1)(hS:w1.heap.size=S)(hD:D=(d.toNat:Int))
  (U:DH B w1 u l)(hB:B<=w1.heap.size)(hl:l.length<=1000000)
  (h:∀g c w2,DH B w2 (.slice (some ⟨g,0,none⟩) (l.length+1) c) (l++[d])->Below B w1 w2->wpList prog ops Q rest (a.put o.dst (.slice (some ⟨g,0,none⟩) (l.length+1) c)) w2):
  wpList prog ops Q (o::rest) a (w1.alloc (.cells #[.int .u8 D] 5)):=by
 subst hS hD;refine vy O fun _ hK=>?_;obtain⟨i0,hi,N,M,J⟩:=qO infoByte;refine vx _ s x 27 ho B 5 i0 _ 1 1 underlying27 hi N M J rfl (by omega) u l.length _ hs (vn U _) ⟨w1,0,none⟩ 1 1 [.int .u8 (d.toNat:Int)] hx rfl
  (qz (cs:=#[.int .u8 (d.toNat:Int)]) (qu _ _)) (by simp[Value.oneCell']) (by omega) (by unfold maxLen;omega) (by omega) (by rw[jL];omega) _ rfl ?_
 intro g c w2 hown1 I hat _;refine hK _ _ (h g c w2 ?_ ?_)
 ·unfold DH;rw[kT,gL];exact hown1
 ·have h1:=(gG B w1).alloc hB (.cells #[.int .u8 (d.toNat:Int)] 5);exact h1.trans ⟨I.os,I.tape,I.output,I.size,fun k hk=>I.block k (by rw[jL];omega) (fun e=>by have:=(vo U k e.symm).1;omega)⟩
theorem DI(c:Nat)(I:0<c)(h:c<100):iG c=c%10::iG (c/10):=by
 unfold iG;by_cases D:c<10
 ·rw[d5 (by omega),gF D,Nat.mod_eq_of_lt D,gF (by omega)]
 ·rw[d5 (by omega),d5 D,d5 (by omega),gF (by omega)]
theorem DJ:iG 0=[]:=rfl
theorem I9(c:Nat)(h:c<100):∀x∈iG c,x<=9:=by
 unfold iG;intro x D;split at D
 ·cases D
 ·split at D
  ·(obtain rfl:x=c:=by simpa using D);omega
  ·rcases List.mem_cons.1 D with rfl|D
   ·omega
   ·(obtain rfl:x=c/10:=by simpa using D);omega
theorem Gm(c:Nat):(iG c).length<=2:=by
 unfold iG;split
 ·simp
 ·split<;>simp
theorem B2(f:Nat)(I:f<=16):∀(l:List Nat)(m:Nat),(∀x∈l,x<=9)->m<=15->∀x∈ec f l m,x<=9
 |[],m,_,M,x,D=>I9 m (by omega) x D
 |y::r,m,hd,M,x,D=>by
  have J:=hd y (List.mem_cons_self);have hb:y*f<=9*16:=Nat.mul_le_mul J I;rw[ec]at D;rcases List.mem_cons.1 D with rfl|D
  ·omega
  ·exact B2 f I r _ (fun z hz=>hd z (qq _ hz)) (by omega) x D
theorem sP(f:Nat):∀(l:List Nat)(m:Nat),(ec f l m).length<=l.length+2
 |[],m=>by rw[ec];have:=Gm m;simp;omega
 |y::r,m=>by rw[ec,gS,gS];have:=sP f r ((y*f+m)/10);omega
theorem Gn(B:Nat)(v:Value)(l:List Nat)(f m:Nat)(w:World)(M:pK B w v l)(hB:B<=w.heap.size)(hd:∀x∈l,x<=9)(hf:f<=16)(hm:m<=15)(hl:l.length<=1000):
  Calls prog 111 #[v,(f:Int),(m:Int)] w fun e w'=>∃v',e=.returned v'/\pK B w' v' (ec f l m)/\Below B w w':=by
 obtain⟨A,cp,rfl,g0⟩:=py M;obtain⟨T,hT⟩:∃T,T=ec f l m:=⟨_,rfl⟩;rw[<-hT];have HT:=hid hT;(have g2:T.length<=1002:=by rw[hT];have:=sP f l m;omega);clear hT;(go_enter func111,ntmps111);go_wp2_with fail;go_loopg [2,7,8,11] l.length (fun gg u2 _ _ u11 wr=>∃(i c:Nat)(done:List Nat),i<=l.length/\l.length-i<=gg/\u2=.int .i64 (c:Int)/\u11=.int .i64 (i:Int)/\done.length=i/\pK B wr (.slice A l.length cp) (done++l.drop i)/\Below B w wr/\done++ec f (l.drop i) c=T/\c<=15)
 case atStart=>exact⟨0,m,[],gP _,by omega,rfl,rfl,rfl,M,gG _ _,HT.out.symm,hm⟩
 case round=>
  clear M hm;obtain⟨i,c,done,hi,gx,rfl,rfl,gm,M,D,hq,hc⟩:=hrel;have HO:=hid M;have HQ:=hid hq;have I:=hid gm;clear M hq gm;by_cases yk:i<l.length
  ·(have gj:(i:Int)<(l.length:Int):=by omega);(have g4:(0:Int)<=(i:Int):=by omega);have ga:=jX yk;have ge:=hd _ (gX yk);generalize l[i]=x at *;have gt:=hid ga;have J:=HO.out;rw[ga]at J;clear ga;obtain⟨g,c',hv,gp,gw⟩:=qY J (by rw[gL,gS];omega);(have U:(done++x::l.drop (i+1)).length=l.length:=by rw[gL,gS,gY,I.out];omega);injection hv with e1 e2 e3;subst e1 e3;unfold pK at J;rw[U]at J;have gb:=ve J i (by omega);have gy:=World.ownsRow.frozenAt J i;(have h:((done++x::l.drop (i+1)).map fun(d:Nat)=>Value.int .i64 (d:Int))[i]? = some (.int .i64 (x:Int)):=by rw[kT,List.getElem?_append_right (by rw[jT,I.out];exact gA _)];simp[I.out]);rw[h]at gb;have hp:x*f<=9*16:=Nat.mul_le_mul ge hf;(have q1:IntKind.i64.wrap ((x:Int)*(f:Int))=((x*f:Nat):Int):=by rw[show(x:Int)*(f:Int)=((x*f:Nat):Int)by simp];exact gQ _ (by omega));have HX:=hid (show ec f (l.drop i) c=(x*f+c)%10::ec f (l.drop (i+1)) ((x*f+c)/10)by rw[gt.out,ec]);generalize x*f=p at *;have q2:IntKind.i64.wrap ((p:Int)+(c:Int))=(p:Int)+(c:Int):=gQ _ (by omega);have gh:=World.ownsRow.stored J i (.int .i64 (((p:Int)+(c:Int))%10));(have O:pK B (wr.setCell ⟨g,i,none⟩ (.int .i64 (((p:Int)+(c:Int))%10))) (.slice (some ⟨g,0,none⟩) l.length cp) ((done++[(p+c)%10])++l.drop (i+1)):=by have h1:=gh.1;(have e:((done++x::l.drop (i+1)).map fun(d:Nat)=>Value.int .i64 (d:Int)).set i (.int .i64 (((p:Int)+(c:Int))%10))=((done++[(p+c)%10])++l.drop (i+1)).map fun(d:Nat)=>Value.int .i64 (d:Int):=by rw[show((p:Int)+(c:Int))%10=(((p+c)%10:Nat):Int)by omega];rw[kT,List.set_append_right _ _ (by rw[jT,I.out];exact gA _)];simp[I.out]);rw[e]at h1;unfold pK;rw[show((done++[(p+c)%10])++l.drop (i+1)).length=l.length by rw[gL,gL,gY,I.out];simp;omega];exact h1);have gd:Below B w (wr.setCell ⟨g,i,none⟩ (.int .i64 (((p:Int)+(c:Int))%10))):=D.setCell (by exact gp) _;have gs:=hid O;have HI:=hid (show(((p:Int)+(c:Int))/10)=(((p+c)/10:Nat):Int)by omega);(have gi:(p+c)/10<=15:=by omega);clear gh O J h ge U e2;go_wp2_with fail;go_roundg (l.length-(i+1))
   case measure=>omega
   case rel=>exact⟨i+1,(p+c)/10,done++[(p+c)%10],by omega,gA _,by rw[HI.out],by go_num,by rw[gL,I.out];rfl,gs.out,gd,by rw[<-HQ.out,HX.out,gO];rfl,gi⟩
  ·(have gj:¬ (i:Int)<(l.length:Int):=by omega);have N:Hid (done++iG c=T):=hid (by rw[<-HQ.out,jS (by omega),ec]);have gn:Hid (pK B wr (.slice A l.length cp) done):=hid (by have:=HO.out;rw[jS (by omega),kG]at this;exact this);(have gl:done.length=l.length:=by have:=I.out;omega);have g5:=hid gl;clear HQ HO I gl;rename World=>wo;go_wp2_with fail;go_loopg [0,2] c (fun gg u0 u2 wr=>∃(L:List Nat)(d:Nat),pK B wr u0 L/\u2=.int .i64 (d:Int)/\L++iG d=T/\Below B w wr/\d<=15/\d<=gg)
   case atStart=>exact⟨done,c,gn.out,rfl,N.out,D,hc,gA _⟩
   case round=>
    clear gn N D hc;obtain⟨L,d,M,rfl,hq,D,gu,gz⟩:=hrel;have HO:=hid M;have HQ:=hid hq;obtain⟨A1,c1,hu,g1⟩:=py M;clear M hq;subst hu;by_cases gq:0<d
    ·(have gv:(0:Int)<(d:Int):=by omega);have N:=hid (show(L++[d%10])++iG (d/10)=T by rw[<-HQ.out,DI d gq (by omega),gO];rfl);(have g3:L.length<=1002:=by have:=jM List.length HQ.out;rw[gL]at this;omega);have HI:=hid (show((d:Int)/10)=((d/10:Nat):Int)by omega);have HM:=hid (show((d:Int)%10)=((d%10:Nat):Int)by omega);clear HQ;go_wp2_with (at_builtin;refine As rfl (.tmp 31) (.tmp 34) rfl B _ _ L (d%10) _ rfl _ rfl rfl HM.out HO.out (by have:=D.size;omega) (by omega) ?_;intro g c w2 gr gd);go_roundg (d/10)
     case measure=>omega
     case rel=>exact⟨L++[d%10],d/10,gr,by rw[HI.out],N.out,D.trans gd,by omega,gA _⟩
    ·(obtain rfl:d=0:=by omega);have HL:Hid (L=T):=hid (by rw[<-HQ.out,DJ,kG]);go_wp2_with fail;go_ret;exact⟨_,rfl,by rw[<-HL.out];exact HO.out,D⟩
end
end Go.Proofs.YtiebcdeafofgdaaGreatDoor
