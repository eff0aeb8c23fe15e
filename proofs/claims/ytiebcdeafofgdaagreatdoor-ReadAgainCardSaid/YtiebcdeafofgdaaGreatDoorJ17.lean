/-
  Parts of the proof: File Expr OkF Pix Pst Ustab Itm Ptok Ppr Pshift Pwr Ubin Cut Pqg. By an AI agent.
-/
import Derived.Test.YtiebcdeafofgdaaGreatDoorJ15
import Derived.Test.YtiebcdeafofgdaaGreatDoorJ16
import Derived.Test.YtiebcdeafofgdaaGreatDoorJ12
import Derived.Test.YtiebcdeafofgdaaGreatDoorJ13
import Derived.Test.YtiebcdeafofgdaaGreatDoorJ01
import Derived.Test.YtiebcdeafofgdaaGreatDoorJ00
import Derived.Test.YtiebcdeafofgdaaGreatDoorJ14
import Derived.Test.YtiebcdeafofgdaaGreatDoorJ02
import Derived.Test.YtiebcdeafofgdaaGreatDoorJ07
import Derived.Test.YtiebcdeafofgdaaGreatDoorJ09
import Derived.Lib.IndexBytes
import Derived.Lib.IndexAny
import Derived.Lib.IndexMore
set_option maxRecDepth 100000
set_option maxHeartbeats 8000000
namespace Go.Proofs.YtiebcdeafofgdaaGreatDoor
section
open Go.RowKit Go.Lib Go.Proofs
attribute [local go_sem ↓] Go.wp_at_zero Go.wp_at_succ
attribute [local go_sem] bu bv bw bz
theorem vb:type_of% @Bool.false_ne_true:=@Bool.false_ne_true
theorem vt:type_of% @List.flatMap_map:=@List.flatMap_map
theorem dn{fn:Func}{q r1 r2:Tmp}(I:fn.results = #[.cell q 24,.tmp r1,.tmp r2])(tmps:Array Value){w:World}{g:Nat}{a b c d v1 v2:Value}(N:tmps.getD q undef=.pointer (some ⟨g,0,none⟩))(U:tmps.getD r1 undef=v1)(O:tmps.getD r2 undef=v2)(hb:au w g 24 #[a,b,c,d]):
  (results fn tmps).run Tryz.prog w=.ok (.tuple #[.agg #[a,b,c,d],v1,v2]) w:=by obtain⟨d0,d1,d2,h,-,-,-,-⟩:=ag hb;unfold results;rw[I];(have D:tmps[q]?.getD undef=.pointer (some ⟨g,0,none⟩):=by simpa using N);(have M:tmps[r1]?.getD undef=v1:=by simpa using U);(have J:tmps[r2]?.getD undef=v2:=by simpa using O);simp[D,M,J,go_sem,d0,d1,d2,h]
theorem o7(a:Array Value)(w:World):(callFunc 32 a).run Tryz.prog w=.ok (.enter 32 a) w:=by kernel_rfl
inductive yi where
 |tree (n:Nd)
 |bad (p e:Int)
 |out
def mo(c:Cx):bH Nd->yi
 | .out=>.out
 | .fail p=>.bad p 5
 | .ok n s1=>if s1.at_<c.toks.length then .bad (av c s1) 5 else if de n=true then .tree n else .bad 0 11
def iW(F:fJ)(s:ByteArray):yi:=match cN s with
 | .err p n=>.bad p n
 | .toks L=>mo ⟨L,(s.size:Int)⟩ (fY F ⟨L,(s.size:Int)⟩ ⟨0,false,-1⟩)
def tf(w:World)(r:yi)(e:Ending)(w':World):Prop:=match r with
 | .tree n=>∃v,e=.returned (.tuple #[v,.int .i64 0,.int .i64 0])/\aq (fun b=>w.heap.size<b) w' v n/\Below w w w'
 | .bad p k=>e=.returned (.tuple #[.agg bD,.int .i64 p,.int .i64 k])/\Below w w w'
 | .out=>True
theorem pT{s:ByteArray}{p n:Int}(h:cN s=.err p n):n≠0:=by
 unfold cN at h;cases hs:fR s with
 |err a b=>rw[hs]at h;injection h with _ h;have:=tU hs;omega
 |toks L=>
  rw[hs]at h;cases D:pS L with
  |some q=>simp only[D]at h;injection h with _ h;have:=DA D;omega
  |none=>simp only[D]at h;cases h
theorem B3(A0:Option Addr)(c:Nat)(s:ByteArray)(w:World)(hv:fo w A0 c s)(hT:mH w)(g1:s.size<=1000000000)(F:fJ)
  (hF:∀L E w',cN s=.toks L->AW E w' s L->oy E F)(gw:iW F s≠.out)
  (gy:∀L n s1,cN s=.toks L->fY F ⟨L,(s.size:Int)⟩ ⟨0,false,-1⟩=.ok n s1->s1.at_<=L.length/\Au 101 n/\(b8 100 n).length<=1000000000):
  Calls Tryz.prog 13 #[.slice A0 s.size c] w (tf w (iW F s)):=by
 have g4:∀(fn:Fn)(first cap:Array Value)(w:World),(Instr.makeFunc fn first cap).run Tryz.prog w=.ok (.func fn first cap) w:=fun _ _ _ _=>rfl;have ge:Below w w (w.alloc (.cells bD 24)):=(gG _ _).alloc (d5 _) _;have gn:au (w.alloc (.cells bD 24)) w.heap.size 24 bD:=au.new w _ _;have g0:fo (w.alloc (.cells bD 24)) A0 c s:=hv.below ge;have gg:=hid (AX A0 c s (w.alloc (.cells bD 24)) g0 (hT.below ge) g1);(have g3:2<w.heap.size:=by obtain⟨m,h⟩:=hT.tab;exact gX w _ h);have HT:=hid hT;obtain⟨O,hO⟩:∃O,iW F s=O:=⟨_,rfl⟩;rw[hO]at gw |-;clear hv g0 hT;cases ht:cN s with
 |err p n=>have HX:Hid (O=.bad p n):=hid (by rw[<-hO,iW,ht]);have hn:=pT ht;(have g2:(n != 0)=true:=by rw[kU];exact hn);rw[ht]at gg;clear hO gw gy hF ht hn;(go_enter Tryz.func13,Tryz.ntmps13);(go_wp2_with fail);refine gg.out.mono ?_;rintro e w1⟨rfl,D⟩;have J:=a8 ge D;have U:=gn.bl D;obtain⟨d0,d1,d2,d3,e0,e1,e2,e3⟩:=ag U;clear gg gn ge D;(go_wp2_with fail);have N:=cg U (.int .i64 0) (.string ⟨#[]⟩) (.slice none 0 0) (.int .i64 0);(have ga:Below w w (ck w1 w.heap.size (.int .i64 0) (.string ⟨#[]⟩) (.slice none 0 0) (.int .i64 0)):=by unfold ck;exact(((J.setCell (d5 _) _).setCell (d5 _) _).setCell (d5 _) _).setCell (d5 _) _);unfold ck at N ga;refine jL (dn rfl _ (by rfl) (by rfl) (by rfl) N) rfl ?_;rw[HX.out];exact⟨rfl,ga⟩
 |toks L=>
  (have gd:mo ⟨L,(s.size:Int)⟩ (fY F ⟨L,(s.size:Int)⟩ ⟨0,false,-1⟩)=O:=by rw[<-hO,iW,ht]);have HF:=hid (fun E w'(h:AW E w' s L)=>hF L E w' ht h);have gv:=fun n s1 h=>gy L n s1 ht h;rw[ht]at gg;clear hO gy hF ht;cases hP:fY F ⟨L,(s.size:Int)⟩ ⟨0,false,-1⟩with
  |out=>rw[hP]at gd;exact absurd gd.symm gw
  |fail p=>have HX:Hid (O=.bad p 5):=hid (by rw[<-gd,hP];rfl);clear gd gw gv;(go_enter Tryz.func13,Tryz.ntmps13);(go_wp2_with fail);refine gg.out.mono ?_;rintro e w1⟨E,rfl,I,gr,D⟩;(have M:(w.alloc (.cells bD 24)).heap.size=w.heap.size+1:=by simp);rw[M]at gr;have J:=a8 ge D;have gl:=gn.bl D;have gq:=D.size;rw[M]at gq;have gk:=(tc E F (HF.out E w1 I)).part w1;have gm:=I.c;have gi:=I.at_;have gp:=(HT.out.below J).tab;clear gg gn ge M D I;have gb:=hid (DC E 32 #[E.R] #[] (fY F) ⟨0,false,-1⟩ p ⟨#[102,105,108,101]⟩ w1 gi o7 (by simpa using gk) (by rw[gm];exact hP));clear gi gk hP gp;(go_wp2_with fail);refine gb.out.mono ?_;rintro e w2⟨rfl,gj⟩;clear gb;have gs:=J.trans (eC gj (B:=w.heap.size) (by omega) (by omega));have U:=gl.grown gj;obtain⟨d0,d1,d2,d3,e0,e1,e2,e3⟩:=ag U;unfold bD;clear gl J;(go_wp2_with fail);have N:=cg U (.int .i64 0) (.string ⟨#[]⟩) (.slice none 0 0) (.int .i64 0);(have ga:Below w w (ck w2 w.heap.size (.int .i64 0) (.string ⟨#[]⟩) (.slice none 0 0) (.int .i64 0)):=by unfold ck;exact(((gs.setCell (d5 _) _).setCell (d5 _) _).setCell (d5 _) _).setCell (d5 _) _);unfold ck at N ga;refine jL (dn rfl _ (by rfl) (by rfl) (by rfl) N) rfl ?_;rw[HX.out];exact⟨rfl,ga⟩
  |ok n s1=>
   obtain⟨g5,gt,gh⟩:=gv n s1 hP;rw[hP,mo]at gd;clear gw gv;by_cases gu:s1.at_<L.length
   ·have HX:Hid (O=.bad (av ⟨L,(s.size:Int)⟩ s1) 5):=hid (by rw[<-gd,gE gu]);clear gd;(go_enter Tryz.func13,Tryz.ntmps13);(go_wp2_with fail);refine gg.out.mono ?_;rintro e w1⟨E,rfl,I,gr,D⟩;(have M:(w.alloc (.cells bD 24)).heap.size=w.heap.size+1:=by simp);rw[M]at gr;have J:=a8 ge D;have gl:=gn.bl D;have gq:=D.size;rw[M]at gq;have gk:=(tc E F (HF.out E w1 I)).part w1;have gm:=I.c;have gi:=I.at_;have gp:=(HT.out.below J).tab;clear gg gn ge M D I;have gb:=DD E 32 #[E.R] #[] (fY F) ⟨0,false,-1⟩ s1 n ⟨#[102,105,108,101]⟩ w1 gi o7 (by simpa using gk) (by rw[gm];exact hP) (by rw[gm];exact gu);rw[gm]at gb;have gb:=hid gb;clear gi gk hP gp gu;(go_wp2_with fail);refine gb.out.mono ?_;rintro e w2⟨rfl,gj⟩;clear gb;have gs:=J.trans (eC gj (B:=w.heap.size) (by omega) (by omega));have U:=gl.grown gj;obtain⟨d0,d1,d2,d3,e0,e1,e2,e3⟩:=ag U;unfold bD;clear gl J;(go_wp2_with fail);have N:=cg U (.int .i64 0) (.string ⟨#[]⟩) (.slice none 0 0) (.int .i64 0);(have ga:Below w w (ck w2 w.heap.size (.int .i64 0) (.string ⟨#[]⟩) (.slice none 0 0) (.int .i64 0)):=by unfold ck;exact(((gs.setCell (d5 _) _).setCell (d5 _) _).setCell (d5 _) _).setCell (d5 _) _);unfold ck at N ga;refine jL (dn rfl _ (by rfl) (by rfl) (by rfl) N) rfl ?_;rw[HX.out];exact⟨rfl,ga⟩
   ·(have gx:s1.at_=L.length:=by omega);rw[gA gu]at gd;cases hr:de n with
    |false=>have HX:Hid (O=.bad 0 11):=hid (by rw[<-gd,hr];rfl);clear gd gu;(go_enter Tryz.func13,Tryz.ntmps13);(go_wp2_with fail);refine gg.out.mono ?_;rintro e w1⟨E,rfl,I,gr,D⟩;(have M:(w.alloc (.cells bD 24)).heap.size=w.heap.size+1:=by simp);rw[M]at gr;have J:=a8 ge D;have gl:=gn.bl D;have gq:=D.size;rw[M]at gq;have gk:=(tc E F (HF.out E w1 I)).part w1;have gm:=I.c;have gi:=I.at_;have gp:=(HT.out.below J).tab;clear gg gn ge M D I;have gb:=hid (we E 32 #[E.R] #[] (fY F) ⟨0,false,-1⟩ s1 n w1 gi o7 (by simpa using gk) (by rw[gm];exact hP) (by rw[gm];exact gx) gp (by omega) ⟨#[102,105,108,101]⟩ false fun w v hT hv=>by rw[<-hr];exact Bf v n w hT hv gt gh);clear gi gk hP gp gt gh;(go_wp2_with fail);refine gb.out.mono ?_;rintro e w2⟨rfl,gj⟩;clear gb;have gs:=J.trans (eC gj (B:=w.heap.size) (by omega) (by omega));have U:=gl.grown gj;obtain⟨d0,d1,d2,d3,e0,e1,e2,e3⟩:=ag U;unfold bD;clear gl J;(go_wp2_with fail);have N:=cg U (.int .i64 0) (.string ⟨#[]⟩) (.slice none 0 0) (.int .i64 0);(have ga:Below w w (ck w2 w.heap.size (.int .i64 0) (.string ⟨#[]⟩) (.slice none 0 0) (.int .i64 0)):=by unfold ck;exact(((gs.setCell (d5 _) _).setCell (d5 _) _).setCell (d5 _) _).setCell (d5 _) _);unfold ck at N ga;refine jL (dn rfl _ (by rfl) (by rfl) (by rfl) N) rfl ?_;rw[HX.out];exact⟨rfl,ga⟩
    |true=>have HX:Hid (O=.tree n):=hid (by rw[<-gd,hr];rfl);clear gd gu;(go_enter Tryz.func13,Tryz.ntmps13);(go_wp2_with fail);refine gg.out.mono ?_;rintro e w1⟨E,rfl,I,gr,D⟩;(have M:(w.alloc (.cells bD 24)).heap.size=w.heap.size+1:=by simp);rw[M]at gr;have J:=a8 ge D;have gl:=gn.bl D;have gq:=D.size;rw[M]at gq;have gk:=(tc E F (HF.out E w1 I)).part w1;have gm:=I.c;have gi:=I.at_;have gp:=(HT.out.below J).tab;clear gg gn ge M D I;have gb:=hid (we E 32 #[E.R] #[] (fY F) ⟨0,false,-1⟩ s1 n w1 gi o7 (by simpa using gk) (by rw[gm];exact hP) (by rw[gm];exact gx) gp (by omega) ⟨#[102,105,108,101]⟩ true fun w v hT hv=>by rw[<-hr];exact Bf v n w hT hv gt gh);clear gi gk hP gp gt gh;(go_wp2_with fail);refine gb.out.mono ?_;rintro e w2⟨⟨v,rfl,hv⟩,gj⟩;have gs:=J.trans (eC gj (B:=w.heap.size) (by omega) (by omega));have U:=gl.grown gj;obtain⟨A,cp,rfl,hC⟩:=hv.toC;obtain⟨d0,d1,d2,d3,e0,e1,e2,e3⟩:=ag U;clear gl J gb hC;(go_wp2_with fail);have N:=cg U (.int .i64 n.kind) (.string n.text) (.slice A n.kids.length cp) (.int .i64 n.pos);have gz:=hv.kept (dq (X:=fun b=>w1.heap.size<=b) (wk:=w2) (g:=w.heap.size) (fun b hb=>by have hb:w1.heap.size<=b:=hb;omega) (.int .i64 n.kind) (.string n.text) (.slice A n.kids.length cp) (.int .i64 n.pos));(have ga:Below w w (ck w2 w.heap.size (.int .i64 n.kind) (.string n.text) (.slice A n.kids.length cp) (.int .i64 n.pos)):=by unfold ck;exact(((gs.setCell (d5 _) _).setCell (d5 _) _).setCell (d5 _) _).setCell (d5 _) _);unfold ck at N gz ga;refine jL (dn rfl _ (by rfl) (by rfl) (by rfl) N) rfl ?_;rw[HX.out];exact⟨_,rfl,gz.mono fun b hb _=>by have hb:w1.heap.size<=b:=hb;omega,ga⟩
def tg(c:Cx):bH Nd->yi
 | .out=>.out
 | .fail p=>.bad p 5
 | .ok n s1=>if s1.at_<c.toks.length then .bad (av c s1) 5 else if oF n=true then .tree n else .bad 0 11
def pU(F:fJ)(s:ByteArray):yi:=match cN s with
 | .err p n=>.bad p n
 | .toks L=>tg ⟨L,(s.size:Int)⟩ (eh F.expr ⟨L,(s.size:Int)⟩ ⟨0,false,-1⟩)
theorem o8(a:Array Value)(w:World):(callFunc 40 a).run Tryz.prog w=.ok (.enter 40 a) w:=by kernel_rfl
theorem B5(s:ByteArray)(w:World)(hT:mH w)(g4:s.size<=1000000000)(F:fJ)
  (hF:∀L E w',cN s=.toks L->AW E w' s L->oy E F)(gx:pU F s≠.out)
  (g1:∀L n s1,cN s=.toks L->eh F.expr ⟨L,(s.size:Int)⟩ ⟨0,false,-1⟩=.ok n s1->s1.at_<=L.length/\Au 101 n/\(b8 100 n).length<=1000000000):
  Calls Tryz.prog 16 #[.string s] w (tf w (pU F s)):=by
 have g7:∀(fn:Fn)(first cap:Array Value)(w:World),(Instr.makeFunc fn first cap).run Tryz.prog w=.ok (.func fn first cap) w:=fun _ _ _ _=>rfl;obtain⟨W0,A0,cp,gu,g3,gm,gn,J⟩:∃(W0:World)(A0:Option Addr)(cp:Nat),(Go.convert 9 27 (.string s)).run Tryz.prog (w.alloc (.cells bD 24))=.ok (.slice A0 s.size cp) W0/\fo W0 A0 cp s/\Below w w W0/\au W0 w.heap.size 24 bD/\W0.heap.size=w.heap.size+2:=
  ⟨_,_,_,run_bytes_of_string (P:=Tryz.prog) (w.alloc (.cells bD 24)) 9 27 5 s Tryz.underlying9 Tryz.underlying27 Tryz.underlying5,r5 s _,((gG _ _).alloc (d5 _) _).drew.alloc (by show w.heap.size<=(w.heap.push _).size;simp) _,(au.new w _ _).drew.alloc _,by show((w.heap.push _).push _).size=_;simp⟩
 unfold bD at gu;have ge:=hid (AX _ _ s W0 g3 (hT.below gm) g4);(have g6:2<w.heap.size:=by obtain⟨m,h⟩:=hT.tab;exact gX w _ h);have HT:=hid hT;obtain⟨O,hO⟩:∃O,pU F s=O:=⟨_,rfl⟩;rw[hO]at gx |-;clear g3 hT;cases ht:cN s with
 |err p n=>have HX:Hid (O=.bad p n):=hid (by rw[<-hO,pU,ht]);have hn:=pT ht;(have g5:(n != 0)=true:=by rw[kU];exact hn);rw[ht]at ge;clear hO gx g1 hF ht hn;(go_enter Tryz.func16,Tryz.ntmps16);(go_wp2_with fail);refine ge.out.mono ?_;rintro e w1⟨rfl,D⟩;have M:=(a8 gm D).alloc (by have:=D.size;omega) (.cells #[.pointer none] 52);have U:=(gn.bl D).alloc (.cells #[.pointer none] 52);clear ge gn gm D gu J;obtain⟨d0,d1,d2,d3,e0,e1,e2,e3⟩:=ag U;(go_wp2_with fail);have N:=cg U (.int .i64 0) (.string ⟨#[]⟩) (.slice none 0 0) (.int .i64 0);(have ga:Below w w (ck (w1.alloc (.cells #[.pointer none] 52)) w.heap.size (.int .i64 0) (.string ⟨#[]⟩) (.slice none 0 0) (.int .i64 0)):=by unfold ck;exact(((M.setCell (d5 _) _).setCell (d5 _) _).setCell (d5 _) _).setCell (d5 _) _);unfold ck at N ga;refine jL (dn rfl _ (by rfl) (by rfl) (by rfl) N) rfl ?_;rw[HX.out];exact⟨rfl,ga⟩
 |toks L=>
  (have gd:tg ⟨L,(s.size:Int)⟩ (eh F.expr ⟨L,(s.size:Int)⟩ ⟨0,false,-1⟩)=O:=by rw[<-hO,pU,ht]);have HF:=hid (fun E w'(h:AW E w' s L)=>hF L E w' ht h);have gw:=fun n s1 h=>g1 L n s1 ht h;rw[ht]at ge;clear hO g1 hF ht;cases hP:eh F.expr ⟨L,(s.size:Int)⟩ ⟨0,false,-1⟩with
  |out=>rw[hP]at gd;exact absurd gd.symm gx
  |fail p=>have HX:Hid (O=.bad p 5):=hid (by rw[<-gd,hP];rfl);clear gd gx gw;(go_enter Tryz.func16,Tryz.ntmps16);(go_wp2_with fail);refine ge.out.mono ?_;rintro e w1⟨E,rfl,I,gr,D⟩;rw[J]at gr;have M:=a8 gm D;have gk:=gn.bl D;have gq:=D.size;rw[J]at gq;have gy:=I.at_.lt;have gj:=mX E F.expr (HF.out E w1 I).expr w1.heap.size (w1.alloc (.cells #[E.R] 52)) (au.new w1 _ _) (by omega);have gl:=I.c;have gh:=I.at_.below ((gG _ w1).alloc (d5 _) (.cells #[E.R] 52));have gp:=(HT.out.below (M.alloc (by omega) (.cells #[E.R] 52))).tab;clear ge gn gm D I gu J;have gb:=hid (DC E 40 #[] #[w1] (eh F.expr) ⟨0,false,-1⟩ p ⟨#[101,120,112,114,101,115,115,105,111,110]⟩ (w1.alloc (.cells #[E.R] 52)) gh o8 (by simpa using gj) (by rw[gl];exact hP));clear gh gj hP gp;(go_wp2_with fail);refine gb.out.mono ?_;rintro e w2⟨rfl,gi⟩;clear gb;(have g0:(w1.alloc (.cells #[E.R] 52)).heap.size=w1.heap.size+1:=by simp);have gs:=M.trans ((gG _ w1).alloc (by omega) (.cells #[E.R] 52) |>.trans (eC gi (B:=w.heap.size) (by omega) (by omega)));have U:=(gk.alloc (.cells #[E.R] 52)).grown gi;obtain⟨d0,d1,d2,d3,e0,e1,e2,e3⟩:=ag U;unfold bD;clear gk M;(go_wp2_with fail);have N:=cg U (.int .i64 0) (.string ⟨#[]⟩) (.slice none 0 0) (.int .i64 0);(have ga:Below w w (ck w2 w.heap.size (.int .i64 0) (.string ⟨#[]⟩) (.slice none 0 0) (.int .i64 0)):=by unfold ck;exact(((gs.setCell (d5 _) _).setCell (d5 _) _).setCell (d5 _) _).setCell (d5 _) _);unfold ck at N ga;refine jL (dn rfl _ (by rfl) (by rfl) (by rfl) N) rfl ?_;rw[HX.out];exact⟨rfl,ga⟩
  |ok n s1=>
   obtain⟨g8,gt,gg⟩:=gw n s1 hP;rw[hP,tg]at gd;clear gx gw;by_cases gv:s1.at_<L.length
   ·have HX:Hid (O=.bad (av ⟨L,(s.size:Int)⟩ s1) 5):=hid (by rw[<-gd,gE gv]);clear gd;(go_enter Tryz.func16,Tryz.ntmps16);(go_wp2_with fail);refine ge.out.mono ?_;rintro e w1⟨E,rfl,I,gr,D⟩;rw[J]at gr;have M:=a8 gm D;have gk:=gn.bl D;have gq:=D.size;rw[J]at gq;have gy:=I.at_.lt;have gj:=mX E F.expr (HF.out E w1 I).expr w1.heap.size (w1.alloc (.cells #[E.R] 52)) (au.new w1 _ _) (by omega);have gl:=I.c;have gh:=I.at_.below ((gG _ w1).alloc (d5 _) (.cells #[E.R] 52));have gp:=(HT.out.below (M.alloc (by omega) (.cells #[E.R] 52))).tab;clear ge gn gm D I gu J;have gb:=DD E 40 #[] #[w1] (eh F.expr) ⟨0,false,-1⟩ s1 n ⟨#[101,120,112,114,101,115,115,105,111,110]⟩ (w1.alloc (.cells #[E.R] 52)) gh o8 (by simpa using gj) (by rw[gl];exact hP) (by rw[gl];exact gv);rw[gl]at gb;have gb:=hid gb;clear gh gj hP gp gv;(go_wp2_with fail);refine gb.out.mono ?_;rintro e w2⟨rfl,gi⟩;clear gb;(have g0:(w1.alloc (.cells #[E.R] 52)).heap.size=w1.heap.size+1:=by simp);have gs:=M.trans ((gG _ w1).alloc (by omega) (.cells #[E.R] 52) |>.trans (eC gi (B:=w.heap.size) (by omega) (by omega)));have U:=(gk.alloc (.cells #[E.R] 52)).grown gi;obtain⟨d0,d1,d2,d3,e0,e1,e2,e3⟩:=ag U;unfold bD;clear gk M;(go_wp2_with fail);have N:=cg U (.int .i64 0) (.string ⟨#[]⟩) (.slice none 0 0) (.int .i64 0);(have ga:Below w w (ck w2 w.heap.size (.int .i64 0) (.string ⟨#[]⟩) (.slice none 0 0) (.int .i64 0)):=by unfold ck;exact(((gs.setCell (d5 _) _).setCell (d5 _) _).setCell (d5 _) _).setCell (d5 _) _);unfold ck at N ga;refine jL (dn rfl _ (by rfl) (by rfl) (by rfl) N) rfl ?_;rw[HX.out];exact⟨rfl,ga⟩
   ·(have gz:s1.at_=L.length:=by omega);rw[gA gv]at gd;cases hr:oF n with
    |false=>have HX:Hid (O=.bad 0 11):=hid (by rw[<-gd,hr];rfl);clear gd gv;(go_enter Tryz.func16,Tryz.ntmps16);(go_wp2_with fail);refine ge.out.mono ?_;rintro e w1⟨E,rfl,I,gr,D⟩;rw[J]at gr;have M:=a8 gm D;have gk:=gn.bl D;have gq:=D.size;rw[J]at gq;have gy:=I.at_.lt;have gj:=mX E F.expr (HF.out E w1 I).expr w1.heap.size (w1.alloc (.cells #[E.R] 52)) (au.new w1 _ _) (by omega);have gl:=I.c;have gh:=I.at_.below ((gG _ w1).alloc (d5 _) (.cells #[E.R] 52));have gp:=(HT.out.below (M.alloc (by omega) (.cells #[E.R] 52))).tab;clear ge gn gm D I gu J;have gb:=hid (we E 40 #[] #[w1] (eh F.expr) ⟨0,false,-1⟩ s1 n (w1.alloc (.cells #[E.R] 52)) gh o8 (by simpa using gj) (by rw[gl];exact hP) (by rw[gl];exact gz) gp (by omega) ⟨#[101,120,112,114,101,115,115,105,111,110]⟩ false fun w v hT hv=>by rw[<-hr];exact yj v n w hT hv gt gg);clear gh gj hP gp gt gg;(go_wp2_with fail);refine gb.out.mono ?_;rintro e w2⟨rfl,gi⟩;clear gb;(have g0:(w1.alloc (.cells #[E.R] 52)).heap.size=w1.heap.size+1:=by simp);have gs:=M.trans ((gG _ w1).alloc (by omega) (.cells #[E.R] 52) |>.trans (eC gi (B:=w.heap.size) (by omega) (by omega)));have U:=(gk.alloc (.cells #[E.R] 52)).grown gi;obtain⟨d0,d1,d2,d3,e0,e1,e2,e3⟩:=ag U;unfold bD;clear gk M;(go_wp2_with fail);have N:=cg U (.int .i64 0) (.string ⟨#[]⟩) (.slice none 0 0) (.int .i64 0);(have ga:Below w w (ck w2 w.heap.size (.int .i64 0) (.string ⟨#[]⟩) (.slice none 0 0) (.int .i64 0)):=by unfold ck;exact(((gs.setCell (d5 _) _).setCell (d5 _) _).setCell (d5 _) _).setCell (d5 _) _);unfold ck at N ga;refine jL (dn rfl _ (by rfl) (by rfl) (by rfl) N) rfl ?_;rw[HX.out];exact⟨rfl,ga⟩
    |true=>have HX:Hid (O=.tree n):=hid (by rw[<-gd,hr];rfl);clear gd gv;(go_enter Tryz.func16,Tryz.ntmps16);(go_wp2_with fail);refine ge.out.mono ?_;rintro e w1⟨E,rfl,I,gr,D⟩;rw[J]at gr;have M:=a8 gm D;have gk:=gn.bl D;have gq:=D.size;rw[J]at gq;have gy:=I.at_.lt;have gj:=mX E F.expr (HF.out E w1 I).expr w1.heap.size (w1.alloc (.cells #[E.R] 52)) (au.new w1 _ _) (by omega);have gl:=I.c;have gh:=I.at_.below ((gG _ w1).alloc (d5 _) (.cells #[E.R] 52));have gp:=(HT.out.below (M.alloc (by omega) (.cells #[E.R] 52))).tab;clear ge gn gm D I gu J;have gb:=hid (we E 40 #[] #[w1] (eh F.expr) ⟨0,false,-1⟩ s1 n (w1.alloc (.cells #[E.R] 52)) gh o8 (by simpa using gj) (by rw[gl];exact hP) (by rw[gl];exact gz) gp (by omega) ⟨#[101,120,112,114,101,115,115,105,111,110]⟩ true fun w v hT hv=>by rw[<-hr];exact yj v n w hT hv gt gg);clear gh gj hP gp gt gg;(go_wp2_with fail);refine gb.out.mono ?_;rintro e w2⟨⟨v,rfl,hv⟩,gi⟩;(have g0:(w1.alloc (.cells #[E.R] 52)).heap.size=w1.heap.size+1:=by simp);have gs:=M.trans ((gG _ w1).alloc (by omega) (.cells #[E.R] 52) |>.trans (eC gi (B:=w.heap.size) (by omega) (by omega)));have U:=(gk.alloc (.cells #[E.R] 52)).grown gi;obtain⟨A,cp,rfl,hC⟩:=hv.toC;obtain⟨d0,d1,d2,d3,e0,e1,e2,e3⟩:=ag U;clear gk M gb hC;(go_wp2_with fail);have N:=cg U (.int .i64 n.kind) (.string n.text) (.slice A n.kids.length cp) (.int .i64 n.pos);have g2:=hv.kept (dq (X:=fun b=>(w1.alloc (.cells #[E.R] 52)).heap.size<=b) (wk:=w2) (g:=w.heap.size) (fun b hb=>by have hb:(w1.alloc (.cells #[E.R] 52)).heap.size<=b:=hb;simp at hb;omega) (.int .i64 n.kind) (.string n.text) (.slice A n.kids.length cp) (.int .i64 n.pos));(have ga:Below w w (ck w2 w.heap.size (.int .i64 n.kind) (.string n.text) (.slice A n.kids.length cp) (.int .i64 n.pos)):=by unfold ck;exact(((gs.setCell (d5 _) _).setCell (d5 _) _).setCell (d5 _) _).setCell (d5 _) _);unfold ck at N g2 ga;refine jL (dn rfl _ (by rfl) (by rfl) (by rfl) N) rfl ?_;rw[HX.out];exact⟨_,rfl,g2.mono fun b hb _=>by have hb:(w1.alloc (.cells #[E.R] 52)).heap.size<=b:=hb;simp at hb;omega,ga⟩
end
section
open Go.RowKit Go.Lib Go.Proofs
theorem TW(E:co)(D:F0 E)(J:∀g,g+1<=1000000->∀s x s1,s.at_<=E.c.toks.length->(cF g).expr E.c s=.ok x s1->Ix x/\s1.at_<=E.c.toks.length)(O:∀g,wX E (cF g))(hS:wZ E)(I:Pf E):∀g,g<=1000000->oy E (cF g)
 |0,_=>⟨fun _ _ _ h=>absurd rfl h,fun _ _ _ h=>absurd rfl h,fun _ _ _ h=>absurd rfl h,fun _ _ _ h=>absurd rfl h,fun _ _ _ h=>absurd rfl h,gP _⟩
 |g+1,N=>by have hF:=TW E D J O hS I g (by omega);(have M:(cF g).g=g:=by cases g<;>rfl);have U:=Ir E (cF g) hF (DM E (cF g) hF D (J g N) (by rw[M];omega));exact⟨OP E (cF g) hF,Mw E (cF g) U,U,LX E (cF g) hF (LQ E (cF g) hF) (O g) hS I,LW E (cF g) hF,N⟩
theorem Iu{E:co}(h:∀t∈E.c.toks,t.text.size<=65536):wZ E:=fun t ht=>jB (h t ht) (by decide)
end
section
section
variable {c:Cx}
theorem Py{n:Nd}(h:rG n):Ix n:=by obtain⟨k,t,l,a⟩:=n;obtain⟨D,-,-,I⟩:=h;have D:l=[]:=D;have I:k=0\/k=6:=I;subst D;unfold Ix;exact⟨fun h=>by omega,by simp,by unfold uZ;trivial⟩
mutual
theorem RK{i j:Nat}:∀n:Nd,a7 c i j n->iM n<=1000000->Ix n
 | .mk k t l a,h,hc=>by obtain⟨h1,N,m,h3,U,O,M⟩:=fS.1 h;rw[aQ]at hc;have:=ym l;unfold Ix;refine⟨fun J=>?_,by omega,MI l M (by omega)⟩;obtain⟨x,r,e,I,D,-⟩:=N J;exact⟨x,r,e,I,D⟩
theorem MI{i j:Nat}:∀l:List Nd,az c i j l->lw l<=1000000->uZ l
 |[],_,_=>by unfold uZ;trivial
 |x::r,h,hc=>by rw[cz]at h;rw[aw]at hc;unfold uZ;exact⟨h.1.elim Py fun h=>RK x h (by omega),MI r h.2 (by omega)⟩
end
theorem DV:∀{l:List Nd}{n:Nd},n∈l->iM n<=lw l
 |m::l,n,h=>by
  rw[aw];rcases List.mem_cons.1 h with rfl|h
  ·omega
  ·have:=DV h;omega
theorem az.mem{i j:Nat}:∀{l:List Nd}{n:Nd},az c i j l->n∈l->rG n\/a7 c i j n
 |m::l,n,h,D=>by
  rw[cz]at h;rcases List.mem_cons.1 D with rfl|D
  ·exact h.1
  ·exact h.2.mem D
theorem Bn:∀(g:Nat)(n:Nd),(b8 g n).length<=iM n
 |0,n=>by simp[b8]
 |g+1,n=>by
  have key:∀l:List Nd,(l.flatMap (b8 g)).length<=lw l:=by
   intro l;induction l with
   |nil=>rw[aL];simp
   |cons m l ih=>have:=Bn g m;rw[jA,gJ,aw];omega
  have:=key n.kids;obtain⟨k,t,l,a⟩:=n;unfold b8;rw[gM,aQ];exact Nat.succ_le_succ this
theorem Fe:∀(g:Nat){i j:Nat}(n:Nd),(rG n\/a7 c i j n)->iM n<=1000000000->Au g n
 |0,_,_,_,_,_=>by unfold Au;trivial
 |g+1,i,j,.mk k t l a,h,hc=>by
  rw[aQ]at hc;have:=ym l;unfold Au;rcases h with⟨I,-,J,-⟩|h
  ·have I:l=[]:=I;have J:t.size=0:=J;subst I;exact⟨⟨by simp,by show t.size<=_;omega⟩,fun k D=>by simp at D⟩
  ·obtain⟨I,U,m,J,O,N,M⟩:=fS.1 h;refine⟨⟨by show l.length<=_;omega,I⟩,fun k D=>?_⟩;have D:k∈l:=D;exact Fe g k (M.mem D) (by have:=DV D;omega)
theorem MJ:∀(g:Nat)(s:St)(n:Nd)(s1:St),c.toks.length<=s.at_->(cF g).expr c s≠.ok n s1
 |0,_,_,_,_=>nofun
 |g+1,s,n,s1,hs=>by
  have U:=pW hs;(have D:∀(x:ByteArray)(s':St),s'.at_=s.at_->aP c s' x=false:=fun x s' he=>by unfold aP OM;rw[he,U];simp);have N:∀b,cx (cF g) c s≠b\/∀x s',b≠.ok x s':=fun b=>by
   unfold cx;rw[U];simp only;rw[gA (by decide),gA (by decide),gA (by decide),gA (by rw[D _ { s with part :=-1 } rfl];decide),gA (by rw[D _ { s with part :=-1 } rfl];decide),gA (by unfold dp;rw[D _ { s with part :=-1 } rfl,vC];exact vb)];by_cases hb:(bH.fail c.fin:bH (Nd×Bool))=b
   ·right;subst hb;exact nofun
   ·left;exact hb
  have M:∀x s',fE (cF g) c s≠.ok x s':=fun x s'=>by
   unfold fE;cases O:cx (cF g) c s with
   |out=>exact nofun
   |fail p=>exact nofun
   |ok y s2=>exact absurd ((N _).resolve_left (fun h=>h O) y s2) (fun h=>h rfl)
  (have J:∀x s',iG (cF g) c s≠.ok x s':=fun x s'=>by unfold iG;rw[D _ _ rfl,D _ _ rfl];exact M x s');have I:∀k x s',i9 (cF g) k c s≠.ok x s':=by
   intro k;induction k with
   |zero=>exact J
   |succ k ih=>
    intro x s';unfold i9;cases O:i9 (cF g) k c s with
    |out=>exact nofun
    |fail p=>exact nofun
    |ok y s2=>exact absurd O (ih y s2)
  exact I 5 n s1
end
theorem dO(n:Nd):(mN n).kind=n.kind:=by cases n;rw[ft];rfl
theorem fB(n:Nd):(mN n).text=n.text:=by cases n;rw[ft];rfl
theorem eB(n:Nd):(mN n).kids=n.kids.map mN:=by cases n;rw[ft,<-mq];rfl
theorem So:mN bU=bU:=by unfold bU;rw[ft,pB]
def bQ(p:Nd->Bool):Prop:=∀n,p (mN n)=p n
theorem Cd(l:List Nd)(i:Nat):(l.map mN).getD i bU=mN (l.getD i bU):=by
 rw[gN,gN,vh];cases l[i]? with
 |none=>exact So.symm
 |some x=>rfl
theorem pf{p:Nd->Bool}(h:bQ p)(l:List Nd):(l.map mN).all p=l.all p:=by rw[List.all_map];congr 1;exact funext h
theorem Bq:∀(ps:List (Nd->Bool))(l:List Nd),(∀p∈ps,bQ p)->cy ps (l.map mN)=cy ps l
 |[],[],_=>rfl
 |[],_::_,_=>rfl
 |_::_,[],_=>rfl
 |p::ps,n::l,h=>by rw[jW,cy,cy,h p (by simp) n,Bq ps l fun q hq=>h q (by simp[hq])]
theorem oh{k:Int}{ps:List (Nd->Bool)}(h:∀p∈ps,bQ p):bQ (fc k ps):=fun n=>by unfold fc;rw[dO,fB,eB,Bq ps _ h]
theorem MR(so:ByteArray->Bool)(n:Nd):aG so (mN n)=mN (aG so n):=by
 unfold aG;rw[fB];split
 ·rw[dO,ft,eB,mq];obtain⟨k,t,l,a⟩:=n;rw[ft];rfl
 ·rw[ft,pB]
theorem sj{k:Int}{ps:List (Nd->Bool)}(so:ByteArray->Bool)(h:∀p∈ps,bQ p):bQ (fun n=>fc k ps (aG so n)):=fun n=>by show fc k ps (aG so (mN n))=fc k ps (aG so n);rw[MR,oh h]
theorem nw{k:Int}{ps:List (Nd->Bool)}(so:ByteArray->Bool)(h:∀p∈ps,bQ p)(n:Nd):fc k ps (aG so (mN n))=fc k ps (aG so n):=sj so h n
theorem D2{p:Nd->Bool}(h:bQ p):bQ (nL p):=fun n=>by unfold nL;rw[dO,fB,eB,pf h]
theorem iO{p q:Nd->Bool}(h:bQ p)(D:bQ q):bQ (dv p q):=fun n=>by unfold dv;rw[h,D]
theorem fI:bQ aE:=fun n=>by unfold aE;rw[dO,fB,eB,jV]
theorem nx{p:Nd->Bool}(h:bQ p):∀q∈[p],bQ q:=fun q hq=>by(obtain rfl:q=p:=by simpa using hq);exact h
theorem pZ{p q:Nd->Bool}(h:bQ p)(D:bQ q):∀r∈[p,q],bQ r:=fun r hr=>by
 (have:r=p\/r=q:=by simpa using hr);rcases this with rfl|rfl
 ·exact h
 ·exact D
theorem D3{p q u:Nd->Bool}(h:bQ p)(I:bQ q)(D:bQ u):∀r∈[p,q,u],bQ r:=fun r hr=>by
 (have:r=p\/r=q\/r=u:=by simpa using hr);rcases this with rfl|rfl|rfl
 ·exact h
 ·exact I
 ·exact D
theorem PC{p q u v:Nd->Bool}(h:bQ p)(J:bQ q)(I:bQ u)(D:bQ v):∀r∈[p,q,u,v],bQ r:=fun r hr=>by
 (have:r=p\/r=q\/r=u\/r=v:=by simpa using hr);rcases this with rfl|rfl|rfl|rfl
 ·exact h
 ·exact J
 ·exact I
 ·exact D
theorem wi:∀q∈([]:List (Nd->Bool)),bQ q:=fun q hq=>by simp at hq
structure TY(F:dM):Prop where
 typ:bQ F.typ
 expr:bQ F.expr
 block:bQ F.block
 stmt:bQ F.stmt
 ifS:bQ F.ifS
section
variable {F:dM} (hF:TY F)
include hF
theorem Ce(so:ByteArray->Bool):bQ (wK F so):=oh (pZ (D2 (sj so (nx hF.typ))) (iO fI hF.typ))
theorem PD:bQ (l5 F):=fun n=>by unfold l5;rw[dO,fB,eB,pf hF.typ,oh (nx hF.typ),Ce hF]
theorem Br:bQ (ct F):=fun n=>by unfold ct;rw[dO,fB,eB,jV,pf (show bQ (oz F)from sj nY (nx hF.typ))]
theorem Fk:bQ (cK F):=fun n=>by unfold cK;rw[dO,fB,eB,pf (show bQ (nZ F)from sj aO (nx hF.typ))]
theorem Fl:bQ (fQ F):=fun n=>by unfold fQ;rw[dO,hF.typ]
theorem sk:bQ (cC F):=D2 (show bQ (nM F)from sj aO (nx (iO (Fl hF) (Br hF))))
theorem Ge:bQ (oU F):=fun n=>by unfold oU;rw[nw aO (pZ (iO fI hF.typ) (iO fI hF.expr)),eB,Cd,Cd,fI,fI]
theorem MS:bQ (f8 F):=fun n=>by unfold f8;rw[dO,nw aO (D3 (sk hF) (show bQ (ld F)from Ce hF aO) hF.block),nw aO (pZ (sk hF) (iO (iO hF.typ (Fk hF)) (Br hF))),nw aO (pZ (sk hF) hF.typ),Ge hF]
theorem MT:bQ (f9 F):=fun n=>by unfold f9;rw[dO,hF.expr,hF.typ]
theorem MU:bQ (dc F):=fun n=>by unfold dc;rw[dO,fB,eB,jV,pf hF.expr,<-List.map_drop,pf (MT hF),pf hF.expr,Cd,dO,hF.expr,hF.typ,nw iI wi,nw iS wi,nw aO wi,nw ng (nx hF.expr),nw iu (pZ hF.expr hF.expr),nw aO (nx hF.expr),oh (pZ (show bQ (ld F)from Ce hF aO) hF.block)]
theorem Cf:bQ (mE F):=sj pu (nx hF.expr)
theorem Cg:bQ (mF F):=oh (pZ hF.expr hF.expr)
theorem MV:bQ (oA F):=fun n=>by unfold oA;rw[dO,hF.expr]
theorem D4:bQ (mw F):=oh (nx (MV hF))
theorem Bs:bQ (ia F):=sj ev (nx hF.expr)
theorem Bt:bQ (dj F):=fun n=>by unfold dj;rw[dO,fB,eB,pf hF.stmt]
theorem MW:bQ (GQ F):=oh (D3 hF.expr hF.block (iO (iO fI hF.block) hF.ifS))
theorem MX:bQ (eY F):=fun n=>by unfold eY;rw[dO,Ge hF,Bs hF,Cg hF,Cf hF,D4 hF,MW hF,oh (PC (iO (iO fI (Bs hF)) (iO (Cg hF) (Cf hF))) (iO fI hF.expr) (iO (iO fI (Cg hF)) (iO (Cf hF) (D4 hF))) hF.block),nw ew (pZ hF.expr hF.block),oh (nx (iO fI hF.expr)),oh wi,Bt hF]
theorem MY:bQ (iT F):=fun n=>by unfold iT;rw[dO,fB,eB,pf (MS hF)]
end
theorem Gf:∀g,TY (aj g)
 |0=>⟨fun _=>rfl,fun _=>rfl,fun _=>rfl,fun _=>rfl,fun _=>rfl⟩
 |g+1=>by have h:=Gf g;exact⟨PD h,MU h,Bt h,MX h,MW h⟩
theorem yB:∀(g:Nat)(n:Nd),b8 g (mN n)=b8 g n
 |0,_=>rfl
 |g+1,n=>by rw[b8,b8,eB,vt];congr 2;exact funext (yB g)
theorem MZ(n:Nd):ic (mN n)=ic n:=by unfold ic;rw[yB]
theorem D5(n:Nd):de (mN n)=de n:=by unfold de CW;rw[MZ,yB,MY (Gf 100)]
theorem cA.right{n m:Nd}(h:cA n m):de n=de m:=by rw[<-D5,show mN n=mN m from h,D5]
def Ag(d:Nat)(P Q:Nd->Bool):Prop:=∀n,lW d n->P n=Q n
theorem Ag.refl(d:Nat)(P:Nd->Bool):Ag d P P:=fun _ _=>rfl
section
variable {d:Nat} {F G:dM}
end
end
section
open Go.Lib
abbrev bytes(s:ByteArray):List UInt8:=s.data.toList
theorem aY(x y:ByteArray):bytes (x++y)=bytes x++bytes y:=by unfold bytes;rw[ByteArray.data_append,Array.toList_append]
theorem dN(s:ByteArray)(i j:Nat):bytes (s.extract i j)=((bytes s).drop i).take (j-i):=by unfold bytes;rw[ByteArray.data_extract,Array.toList_extract,qg]
theorem cm{x y:ByteArray}(h:bytes x=bytes y):x=y:=by obtain⟨a⟩:=x;obtain⟨b⟩:=y;have:a=b:=Array.ext' h;rw[this]
theorem bN(s:ByteArray):(bytes s).length=s.size:=rfl
inductive It where
 |tok (k:Int) (x:List UInt8)
 |gap (b:UInt8)
 |nl
def Tk:It->List UInt8
 | .tok _ x=>x
 | .gap b=>[b]
 | .nl=>[10]
def ls(l:List It):List UInt8:=l.flatMap Tk
theorem dB(a:It)(l:List It):ls (a::l)=Tk a++ls l:=by unfold ls;rw[jA]
theorem i8(l m:List It):ls (l++m)=ls l++ls m:=by unfold ls;rw[kO]
def d8(x:List UInt8):ByteArray:=⟨x.toArray⟩
theorem bO(x:List UInt8):bytes (d8 x)=x:=by unfold bytes d8;exact List.toList_toArray ..
theorem ch{k:Int}{ps:List (Nd->Bool)}{n:Nd}(h:fc k ps n=true):∃l a,n=.mk k ⟨#[]⟩ l a/\cy ps l=true:=by obtain⟨k',t,l,a⟩:=n;unfold fc at h;rw[gB,gB,gC,gC]at h;obtain⟨rfl,rfl,h⟩:=h;exact⟨l,a,rfl,h⟩
theorem aJ{k:Int}{ps:List (Nd->Bool)}{so:ByteArray->Bool}{n:Nd}(D:k≠37)(h:fc k ps (aG so n)=true):∃t l a,n=.mk k t l a/\so t=true/\cy ps l=true:=by
 obtain⟨k',t,l,a⟩:=n;unfold aG at h;split at h
 ·rename_i hs;obtain⟨l',a',e,h⟩:=ch h;injection e with e1 _ e3 _;exact⟨t,l,a,by rw[show k'=k from e1],hs,by rw[show l=l' from e3];exact h⟩
 ·obtain⟨l',a',e,_⟩:=ch h;injection e with e1;exact absurd e1.symm D
theorem ep{p:Nd->Bool}{l:List Nd}(h:cy [p] l=true):∃x,l=[x]/\p x=true:=by
 rcases l with _|⟨x,_|⟨y,l⟩⟩
 ·cases h
 ·exact⟨x,rfl,by simpa[cy]using h⟩
 ·simp[cy]at h
theorem li{p q:Nd->Bool}{l:List Nd}(h:cy [p,q] l=true):∃x y,l=[x,y]/\p x=true/\q y=true:=by
 rcases l with _|⟨x,_|⟨y,_|⟨z,l⟩⟩⟩
 ·cases h
 ·simp[cy]at h
 ·exact⟨x,y,rfl,by simpa[cy]using h⟩
 ·simp[cy]at h
theorem DW{p q u:Nd->Bool}{l:List Nd}(h:cy [p,q,u] l=true):∃x y z,l=[x,y,z]/\p x=true/\q y=true/\u z=true:=by
 rcases l with _|⟨x,_|⟨y,_|⟨z,_|⟨w,l⟩⟩⟩⟩
 ·cases h
 ·simp[cy]at h
 ·simp[cy]at h
 ·exact⟨x,y,z,rfl,by simpa[cy]using h⟩
 ·simp[cy]at h
theorem Pz{p q u v:Nd->Bool}{l:List Nd}(h:cy [p,q,u,v] l=true):∃x y z w,l=[x,y,z,w]/\p x=true/\q y=true/\u z=true/\v w=true:=by
 rcases l with _|⟨x,_|⟨y,_|⟨z,_|⟨w,_|⟨k,l⟩⟩⟩⟩⟩
 ·cases h
 ·simp[cy]at h
 ·simp[cy]at h
 ·simp[cy]at h
 ·exact⟨x,y,z,w,rfl,by simpa[cy]using h⟩
 ·simp[cy]at h
theorem bP{n:Nd}(h:aE n=true):∃a,n=.mk 0 ⟨#[]⟩ [] a:=by obtain⟨k,t,l,a⟩:=n;unfold aE at h;rw[gB,gB,gC,gC,gC]at h;obtain⟨rfl,rfl,h⟩:=h;have h:l.length=0:=h;rw[jR h];exact⟨a,rfl⟩
theorem sc{F:dM}{so:ByteArray->Bool}{n:Nd}(h:wK F so n=true):∃ps a1 res a,n=.mk 12 ⟨#[]⟩ [.mk 6 ⟨#[]⟩ ps a1,res] a/\ps.all (lG F so)=true/\(aE res=true\/F.typ res=true):=by obtain⟨l,a,rfl,h⟩:=ch h;obtain⟨x,y,rfl,D,I⟩:=li h;obtain⟨k,t,ps,a1⟩:=x;unfold nL at D;rw[gB,gB,gC,gC]at D;obtain⟨rfl,rfl,D⟩:=D;unfold dv at I;rw[gH]at I;exact⟨ps,a1,y,a,rfl,D,I⟩
theorem cR{d:Nat}{n:Nd}(h:(aj d).typ n=true):n.kind=10\/n.kind=11\/n.kind=12:=by
 cases d with
 |zero=>cases h
 |succ d=>
  have h:l5 (aj d) n=true:=h;unfold l5 at h;split at h
  ·exact .inl ‹_›
  ·split at h
   ·exact .inr (.inl ‹_›)
   ·split at h
    ·exact .inr (.inr ‹_›)
    ·cases h
theorem tr{p:Nd->Bool}{n:Nd}(h:nL p n=true):∃l a,n=.mk 6 ⟨#[]⟩ l a/\l.all p=true:=by obtain⟨k,t,l,a⟩:=n;unfold nL at h;rw[gB,gB,gC,gC]at h;obtain⟨J,D,I⟩:=h;obtain rfl:k=6:=J;obtain rfl:t=(⟨#[]⟩:BA):=D;exact⟨l,a,rfl,I⟩
def NB(t:cY):Prop:=t.kind=5\/(32:UInt8)∉bytes t.text
theorem sd{row x:List UInt8}(h:contains (32::row++[32]) (32::x++[32])=true):∃k,k<=(32::row++[32]).length/\(32::x++[32]).isPrefixOf ((32::row++[32]).drop k)=true:=by
 unfold contains at h;rw[gC]at h;rcases index_spec (32::row++[32]) (32::x++[32])with⟨J,_⟩|⟨i,_,I,D,_⟩
 ·omega
 ·exact⟨i,I,D⟩
theorem oe{p l:List UInt8}(h:p.isPrefixOf l=true):l.take p.length=p:=by rw[List.isPrefixOf_iff_prefix]at h;exact(List.prefix_iff_eq_take.1 h).symm
def TX(row:ByteArray)(m n:Nat):Bool:=(List.range m).all fun k=>
 let w:=((32::bytes row++[32]).drop k).take n
 !(decide (w.length=n)&&(w.getD 0 0==32&&(w.getD (n-1) 0==32&&w.getD 1 0 != 32)))||(w.getD 2 0 != 32&&(n==4||w.getD 3 0 != 32))
theorem TI:TX pJ 18 5=true:=by decide +kernel
theorem TJ:TX rE 65 4=true:=by decide +kernel
theorem MK(k:Nat)(D:k<18)(a b c:UInt8)(h:((32::bytes pJ++[32]).drop k).take 5=[32,a,b,c,32])(I:a≠32):b≠32/\c≠32:=by have:=List.all_eq_true.1 TI k (List.mem_range.2 D);rw[h]at this;simpa[I]using this
theorem ML(k:Nat)(D:k<65)(a b:UInt8)(h:((32::bytes rE++[32]).drop k).take 4=[32,a,b,32])(I:a≠32):b≠32:=by have:=List.all_eq_true.1 TJ k (List.mem_range.2 D);rw[h]at this;simpa[I]using this
theorem yv:(32::bytes pJ++[32]).length=17/\(32::bytes rE++[32]).length=64:=by decide +kernel
theorem nn(row t:ByteArray)(n:Nat):nN row t n=contains (32::bytes row++[32]) (32::(bytes t).take n++[32]):=by unfold nN;(have I:((⟨#[32]⟩++row++⟨#[32]⟩:ByteArray)).data.toList=32::bytes row++[32]:=by show bytes _=_;rw[aY,aY];rfl);(have D:((⟨#[32]⟩++t.extract 0 n++⟨#[32]⟩:ByteArray)).data.toList=32::(bytes t).take n++[32]:=by show bytes _=_;rw[aY,aY,dN];simp[bytes]);rw[I,D]
theorem PA(s:ByteArray)(i:Nat)(hb:aa s i≠32)(h0:dX s i≠0):(32:UInt8)∉bytes (s.extract i (i+dX s i)):=by
 (have hd:∀n,bytes (s.extract i (i+n))=((bytes s).drop i).take n:=fun n=>by rw[dN];congr 1;omega);(have N:bytes (s.extract i s.size)=(bytes s).drop i:=by rw[dN];exact jK (by rw[gR,bN];omega));(have D:((bytes s).drop i).length=s.size-i:=by rw[gR,bN]);(have I:((bytes s).drop i).getD 0 0≠32:=by intro h;apply hb;unfold aa;rw[gN,kY,jP,<-gN]at h;show((bytes s).getD i 0).toNat=32;rw[h];rfl);revert h0;unfold dX;rw[nn,nn,N];generalize(bytes s).drop i=r at *;split
 ·rename_i h;intro _;rw[hd];obtain⟨k,U,M⟩:=sd h.2;have O:=oe M;rw[yv.1]at U;have hl:=h.1;clear h M hd N;rcases r with _|⟨a,_|⟨b,_|⟨c,q⟩⟩⟩
  ·simp at D;omega
  ·simp at D;omega
  ·simp at D;omega
  ·(have J:a≠32:=by simpa using I);have:=MK k (by omega) a b c (by simpa using O) J;simp only[qh,qu,vd,qM,or_false,not_or];exact⟨fun e=>J e.symm,fun e=>this.1 e.symm,fun e=>this.2 e.symm⟩
 ·split
  ·rename_i h;intro _;rw[hd];obtain⟨k,U,M⟩:=sd h.2;have O:=oe M;rw[yv.2]at U;have hl:=h.1;clear h M hd N;rcases r with _|⟨a,_|⟨b,q⟩⟩
   ·simp at D;omega
   ·simp at D;omega
   ·(have J:a≠32:=by simpa using I);have:=ML k (by omega) a b (by simpa using O) J;simp only[qh,qu,vd,qM,or_false,not_or];exact⟨fun e=>J e.symm,fun e=>this e.symm⟩
  ·split
   ·rename_i h;intro _;rw[hd];have hl:=h.1;clear h hd N;rcases r with _|⟨a,q⟩
    ·simp at D;omega
    ·(have J:a≠32:=by simpa using I);simp only[qh,qu,vd,qM,or_false];exact fun e=>J e.symm
   ·intro h;exact absurd rfl h
theorem rQ{α:Type}(p:α->Bool):∀(l:List α)(x:α),x∈l.takeWhile p->p x=true
 |[],x,h=>by simp at h
 |y::l,x,h=>by
  rw[qy]at h;split at h
  ·rename_i D;rcases List.mem_cons.1 h with rfl|h
   ·exact D
   ·exact rQ p l x h
  ·simp at h
theorem Gb(s:ByteArray)(i:Nat):(32:UInt8)∉bytes (s.extract i (i+bX (s.data.toList.drop i))):=by rw[dN];show(32:UInt8)∉((bytes s).drop i).take (i+bX ((bytes s).drop i)-i);generalize(bytes s).drop i=r;rw[show i+bX r-i=bX r by omega];unfold bX;intro h;(have e:r.take (r.takeWhile fun c=>a6 (c.toNat:Int)).length=r.takeWhile fun c=>a6 (c.toNat:Int):=by have:=List.takeWhile_prefix (p:=fun c:UInt8=>a6 (c.toNat:Int)) (l:=r);exact(List.prefix_iff_eq_take.1 this).symm);rw[e]at h;exact absurd (rQ _ _ _ h) (by decide)
def KD(t:cY):Prop:=t.kind=2->bZ t.text=1
theorem TE(x:ByteArray)(p:Int):KD ⟨6,x,p⟩:=fun h=>absurd (show(6:Int)=2 from h) (by decide)
theorem Iz(s:ByteArray)(i:Nat)(l:List cY)(j:Nat)(l':List cY)(h:fh s i l=.go j l'):l'=l\/∃t,l'=l++[t]/\t.pos=(i:Int)/\NB t/\KD t:=by
 have N:∀p:Int,fm l p=l\/fm l p=l++[⟨6,⟨#[10]⟩,p⟩]:=fun p=>by
  unfold fm;split
  ·exact .inr rfl
  ·exact .inl rfl
 have I:∀p:Int,NB ⟨6,⟨#[10]⟩,p⟩:=fun p=>.inr (by show(32:UInt8)∉([10]:List UInt8);decide);unfold fh at h;split at h
 ·injection h with _ h;exact .inl h.symm
 ·split at h
  ·injection h with _ h;subst h;exact(N _).imp id fun e=>⟨_,e,rfl,I _,TE _ _⟩
  ·split at h
   ·injection h with _ h;exact .inl h.symm
   ·rename_i M;cases D:iD s i l with
    |some r=>
     rw[D]at h;have h:r=.go j l':=h;subst h;unfold iD at D;split at D
     ·injection D with D;injection D with _ e2;exact .inl e2.symm
     ·split at D
      ·split at D
       ·injection D with D;cases D
       ·injection D with D;injection D with _ e2;subst e2;split
        ·exact(N _).imp id fun e=>⟨_,e,rfl,I _,TE _ _⟩
        ·exact .inl rfl
      ·cases D
    |none=>
     rw[D]at h;simp only at h;split at h
     ·injection h with _ h;exact .inr ⟨_,h.symm,rfl,.inr (Gb s i),fun e=>by have e:bZ (s.extract i (i+bX (s.data.toList.drop i)))+1=2:=e;show bZ (s.extract i (i+bX (s.data.toList.drop i)))=1;omega⟩
     ·split at h
      ·injection h with _ h;exact .inr ⟨_,h.symm,rfl,.inr (Gb s i),fun e=>absurd (show(4:Int)=2 from e) (by decide)⟩
      ·split at h
       ·unfold sL at h;split at h
        ·injection h with _ h;exact .inr ⟨_,h.symm,rfl,.inl rfl,fun e=>absurd (show(5:Int)=2 from e) (by decide)⟩
        ·cases h
       ·unfold mL at h;split at h
        ·cases h
        ·rename_i J;injection h with _ h;exact .inr ⟨_,h.symm,rfl,.inr (PA s i (fun e=>M (.inl e)) J),TE _ _⟩
structure tu(i:Nat)(l:List cY):Prop where
 nb:∀t∈l,NB t
 at_:∀t∈l,0<=t.pos/\t.pos<=(i:Int)
 up:l.Pairwise fun a b=>a.pos<=b.pos
 kd:∀t∈l,KD t
theorem tu.le{i j:Nat}{l:List cY}(h:tu i l)(D:i<=j):tu j l:=⟨h.nb,fun t ht=>by have:=h.at_ t ht;omega,h.up,h.kd⟩
theorem tu.push{i j:Nat}{l:List cY}{t:cY}(h:tu i l)(M:i<=j)(N:t.pos=(i:Int))(I:NB t)(J:KD t):tu j (l++[t]):=by
 refine⟨fun u D=>?_,fun u D=>?_,?_,fun u D=>?_⟩
 ·rcases List.mem_append.1 D with D|D
  ·exact h.nb u D
  ·(obtain rfl:u=t:=by simpa using D);exact I
 ·rcases List.mem_append.1 D with D|D
  ·have:=h.at_ u D;omega
  ·(obtain rfl:u=t:=by simpa using D);omega
 ·rw[List.pairwise_append];refine⟨h.up,List.pairwise_singleton _ _,fun a ha b hb=>?_⟩;(obtain rfl:b=t:=by simpa using hb);have:=(h.at_ a ha).2;omega
 ·rcases List.mem_append.1 D with D|D
  ·exact h.kd u D
  ·(obtain rfl:u=t:=by simpa using D);exact J
theorem yw(s:ByteArray)(hs:s.size<=65536):∀(g i:Nat)(l r:List cY),i<=s.size->mM i l->tu i l->d7 s g i l=.ok r->tu s.size r
 |0,_,_,_,_,_,_,h=>by cases h
 |g+1,i,l,r,hi,M,I,h=>by
  unfold d7 at h;split at h
  ·rename_i J;cases D:fh s i l with
   |go j l'=>
    rw[D]at h;obtain⟨h1,h2,h3⟩:=sN s i l hs J M j l' D;refine yw s hs g j l' r h2 h3 ?_ h;rcases Iz s i l j l' D with rfl|⟨t,rfl,N,O,U⟩
    ·exact I.le (by omega)
    ·exact I.push (by omega) N O U
   |bad p=>rw[D]at h;cases h
  ·injection h with h;subst h;unfold fm;split
   ·(have he:i=s.size:=by omega);subst he;exact I.push (d5 _) rfl (.inr (by show(32:UInt8)∉([10]:List UInt8);decide)) (TE _ _)
   ·exact I.le hi
theorem IA{s:ByteArray}{L:List cY}(h:fR s=.toks L):tu s.size L:=by
 unfold fR at h;split at h
 ·cases h
 ·split at h
  ·cases h
  ·cases hs:d7 s (s.size+1) 0 []with
   |ok l=>rw[hs]at h;injection h with h;subst h;exact yw s (by omega) _ 0 [] l (gP _) ⟨by simp,fun t ht=>by simp at ht⟩ ⟨fun t ht=>by simp at ht,fun t ht=>by simp at ht,List.Pairwise.nil,fun t ht=>by simp at ht⟩ hs
   |bad p=>rw[hs]at h;cases h
def cX(b:UInt8):It:=.tok 6 [b]
def pb(x:ByteArray):It:=.tok 6 (bytes x)
def iy(x:ByteArray):It:=.tok 2 (bytes x)
def iN(x:ByteArray):It:=.tok 1 (bytes x)
def bc:It:=.gap 32
def cv(s:List It):List (List It)->List It
 |[]=>[]
 |[x]=>x
 |x::y::r=>x++(s++cv s (y::r))
def ci:List It:=[cX 44,bc]
abbrev aV(n:Nd)(i:Nat):Nd:=n.kids.getD i bU
def nI(n:Nat):List It:=List.replicate n (.gap 9)
def AI(n:Nat):UInt8:=UInt8.ofNat (if n<10 then 48+n else 87+n)
def cu(b:UInt8):List UInt8:=
 if b=34 then[92,34]else if b=92 then[92,92]else if b=10 then[92,110]else if b=9 then[92,116]
 else if 32<=b.toNat/\b.toNat<=126 then[b]else[92,120,AI (b.toNat/16),AI (b.toNat%16)]
def cj(s:List UInt8):List UInt8:=34::s.flatMap cu++[34]
def dR(x:ByteArray):List It:=if x=(⟨#[]⟩:BA)then[]else[iN x,bc]
def ez(f:Nd->List It)(n:Nd):List It:=
 cX 40::(cv ci ((aV n 0).kids.map fun p=>dR p.text++f (aV p 0))++(cX 41::(if(aV n 1).kind=0 then[]else bc::f (aV n 1))))
def nu(f:Nd->List It)(l:List Nd):List It:=if l=[]then[]else cX 91::(cv ci (l.map f)++[cX 93])
def iE(x:ByteArray):List It:=if x=(⟨#[]⟩:BA)then[]else[cX 126]
def lN(f:Nd->List It)(n:Nd):List It:=iy ⟨#[105,110,116,101,114,102,97,99,101]⟩::cX 123::bc::(cv [bc,cX 124,bc] (n.kids.map fun t=>iE t.text++f (aV t 0))++[bc,cX 125])
def af:Nat->Nd->List It
 |0,_=>[]
 |g+1,n=>
  if n.kind=11 then cX 91::cX 93::af g (aV n 0)
  else if n.kind=12 then iy ⟨#[102,117,110,99]⟩::ez (af g) n
  else if n.kind=14 then lN (af g) n
  else iN n.text::nu (af g) n.kids
structure uR where
 typ:Nd->List It
 expr:Nd->Nat->Bool->List It
 block:Nd->Nat->List It
 stmt:Nd->Nat->Bool->List It
def bY(x:ByteArray):Nat:=if x=(⟨#[124,124]⟩:BA)then 1 else if x=(⟨#[38,38]⟩:BA)then 2 else if x=(⟨#[43]⟩:BA)\/x=(⟨#[45]⟩:BA)then 4 else if x=(⟨#[42]⟩:BA)\/x=(⟨#[47]⟩:BA)\/x=(⟨#[37]⟩:BA)then 5 else 3
section
variable (F:uR)
def aM(yes:Bool)(n:Nd)(deep:Nat)(head:Bool):List It:=if yes=true then cX 40::(F.expr n deep false++[cX 41])else F.expr n deep head
def dy(deep:Nat)(x:Nd):List It:=if x.kind=11\/x.kind=12 then F.typ x else F.expr x deep false
def di(n:Nd)(deep:Nat):List It:=cv ci ((n.kids.drop 1).map (dy F deep))
def fa(n x:Nd):Bool:=decide (x.kind=20)||(decide (x.kind=19)&&(decide (n.text=(⟨#[45]⟩:BA))&&decide (x.text=(⟨#[45]⟩:BA))))
def fb(n x:Nd):Bool:=decide (x.kind=20)&&decide (bY x.text<bY n.text)
def eM(n x:Nd):Bool:=decide (x.kind=20)&&decide (bY x.text<=bY n.text)
def dr(x:Nd):Bool:=decide (x.kind=19)||decide (x.kind=20)
def oJ(n:Nd)(deep:Nat):List It:=F.typ (aV n 0)++(cX 123::(di F n deep++[cX 125]))
def mI(n:Nd)(deep:Nat)(head:Bool):List It:=
 if n.kind=16 then[.tok 4 (bytes n.text)]
 else if n.kind=17 then[.tok 5 (cj (bytes n.text))]
 else if n.kind=18 then[iN n.text]
 else if n.kind=19 then pb n.text::aM F (fa n (aV n 0)) (aV n 0) deep head
 else if n.kind=20 then aM F (fb n (aV n 0)) (aV n 0) deep head++(bc::pb n.text::bc::aM F (eM n (aV n 1)) (aV n 1) deep head)
 else if n.kind=21 then aM F (dr (aV n 0)) (aV n 0) deep head++(cX 40::(di F n deep++[cX 41]))
 else if n.kind=22 then aM F (dr (aV n 0)) (aV n 0) deep head++(cX 91::(di F n deep++[cX 93]))
 else if n.kind=23 then aM F (dr (aV n 0)) (aV n 0) deep head++[cX 46,iN n.text]
 else if n.kind=24 then if head=true/\(aV n 0).kind=10 then cX 40::(oJ F n deep++[cX 41])else oJ F n deep
 else iy ⟨#[102,117,110,99]⟩::(ez F.typ (aV n 0)++(bc::F.block (aV n 1) deep))
def og(n:Nd)(deep:Nat):List It:=cX 123::.gap 10::(n.kids.flatMap (fun x=>nI (deep+1)++(F.stmt x (deep+1) false++[.nl]))++(nI deep++[cX 125]))
def pc(n:Nd)(deep:Nat):List It:=
 iy ⟨#[118,97,114]⟩::bc::iN n.text::((if(aV n 0).kind=0 then[]else bc::F.typ (aV n 0))++(if(aV n 1).kind=0 then[]else bc::cX 61::bc::F.expr (aV n 1) deep false))
def ij(x:ByteArray):List It:=
 if x=(⟨#[]⟩:BA)then[]else
 (if(iJ x).2.2=true then[.tok 1 (iJ x).1,cX 44,bc,.tok 1 (iJ x).2.1]else[.tok 1 (iJ x).1])++[bc,pb ⟨#[58,61]⟩,bc]
def eS(n:Nd)(deep:Nat)(head:Bool):List It:=
 if n.kind=26 then iN n.text::bc::pb ⟨#[58,61]⟩::bc::F.expr (aV n 0) deep head
 else if n.kind=27 then F.expr (aV n 0) deep head++(bc::cX 61::bc::F.expr (aV n 1) deep head)
 else if n.kind=28 then F.expr (aV n 0) deep head++[pb n.text]
 else F.expr (aV n 0) deep head
def si(n:Nd)(deep:Nat):List It:=
 if(aV n 0).kind≠0\/(aV n 2).kind≠0 then
  (if(aV n 0).kind≠0 then eS F (aV n 0) deep true else[])++(cX 59::bc::((if(aV n 1).kind≠0 then F.expr (aV n 1) deep true else[])++(cX 59::bc::(if(aV n 2).kind≠0 then eS F (aV n 2) deep true++[bc]else[]))))
 else if(aV n 1).kind≠0 then F.expr (aV n 1) deep true++[bc]else[]
def cr(n:Nd)(deep:Nat)(head:Bool):List It:=
 if n.kind=5 then pc F n deep
 else if n.kind=26 then iN n.text::bc::pb ⟨#[58,61]⟩::bc::F.expr (aV n 0) deep head
 else if n.kind=27 then F.expr (aV n 0) deep head++(bc::cX 61::bc::F.expr (aV n 1) deep head)
 else if n.kind=28 then F.expr (aV n 0) deep head++[pb n.text]
 else if n.kind=29 then F.expr (aV n 0) deep head
 else if n.kind=30 then iy ⟨#[105,102]⟩::bc::(F.expr (aV n 0) deep true++(bc::(F.block (aV n 1) deep++(if(aV n 2).kind=0 then[]else bc::iy ⟨#[101,108,115,101]⟩::bc::F.stmt (aV n 2) deep false))))
 else if n.kind=31 then iy ⟨#[102,111,114]⟩::bc::(si F n deep++F.block (aV n 3) deep)
 else if n.kind=32 then iy ⟨#[102,111,114]⟩::bc::(ij n.text++(iy ⟨#[114,97,110,103,101]⟩::bc::(F.expr (aV n 0) deep true++(bc::F.block (aV n 1) deep))))
 else if n.kind=33 then iy ⟨#[114,101,116,117,114,110]⟩::(if(aV n 0).kind=0 then[]else bc::F.expr (aV n 0) deep false)
 else if n.kind=34 then[iy ⟨#[98,114,101,97,107]⟩]
 else if n.kind=35 then[iy ⟨#[99,111,110,116,105,110,117,101]⟩]
 else og F n deep
def fL(n:Nd):List It:=if n.kind=14 then lN F.typ n else F.typ n
def dS(p:Nd):List It:=iN p.text::bc::fL F (aV p 0)
def fA(n:Nd):List It:=nu (dS F) n.kids
def cS(f:Nd):List It:=.gap 9::iN f.text::bc::(F.typ (aV f 0)++[.nl])
def pd(n:Nd):List It:=iy ⟨#[115,116,114,117,99,116]⟩::bc::cX 123::.gap 10::(n.kids.flatMap (cS F)++[cX 125])
def eN(n:Nd):List It:=
 if n.kind=2 then iy ⟨#[102,117,110,99]⟩::bc::iN n.text::(fA F (aV n 0)++(ez F.typ (aV n 1)++(bc::F.block (aV n 2) 0)))
 else if n.kind=3 then iy ⟨#[116,121,112,101]⟩::bc::iN n.text::(fA F (aV n 0)++(bc::(if(aV n 1).kind=13 then pd F (aV n 1)else fL F (aV n 1))))
 else if n.kind=4 then iy ⟨#[116,121,112,101]⟩::bc::iN n.text::(fA F (aV n 0)++(bc::cX 61::bc::F.typ (aV n 1)))
 else pc F n 0
def lO(n:Nd):List It:=iy ⟨#[112,97,99,107,97,103,101]⟩::bc::iN n.text::.nl::n.kids.flatMap fun d=>.gap 10::(eN F d++[.nl])
end
theorem pe(F:uR){n:Nd}(D:26<=n.kind/\n.kind<=29)(deep:Nat)(head:Bool):cr F n deep head=eS F n deep head:=by
 unfold cr eS;rw[gA (by omega)];split
 ·rfl
 ·split
  ·rfl
  ·split
   ·rfl
   ·rw[gE (by omega)]
def ac:Nat->uR
 |0=>⟨fun _=>[],fun _ _ _=>[],fun _ _=>[],fun _ _ _=>[]⟩
 |g+1=>⟨af (g+1),mI (ac g),og (ac g),cr (ac g)⟩
structure Tv(t:List UInt8):Prop where
 hd:∃q,t=10::q
 no:(96:UInt8)∉t
 cl:index t [42,47]<0
def yA(r:List UInt8):Nat:=
 if 3<=r.length/\contains (32::bytes pJ++[32]) (32::r.take 3++[32])=true then 3
 else if 2<=r.length/\contains (32::bytes rE++[32]) (32::r.take 2++[32])=true then 2
 else if 1<=r.length/\contains (32::bytes uO++[32]) (32::r.take 1++[32])=true then 1
 else 0
theorem Fj(s:ByteArray)(i:Nat):bytes (s.extract i s.size)=(bytes s).drop i:=by rw[dN];exact jK (by rw[gR,bN];omega)
theorem Cc(s:ByteArray)(i:Nat):dX s i=yA ((bytes s).drop i):=by unfold dX yA;rw[nn,nn,nn,Fj,gR,bN]
structure ub(s s':ByteArray)(k:Nat):Prop where
 pos:0<k
 rest:∃t,Tv t/\(bytes s').drop k=bytes s++t
section
variable {s s':ByteArray} {k:Nat} (hW:ub s s' k)
include hW
theorem ub.len:s.size+k<s'.size:=by obtain⟨t,D,e⟩:=hW.rest;obtain⟨q,rfl⟩:=D.hd;have:=jH List.length e;rw[gR,bN,gJ,bN,gM]at this;omega
theorem ub.drop{i:Nat}(I:i<=s.size):∃t,Tv t/\(bytes s').drop (i+k)=(bytes s).drop i++t:=by obtain⟨t,D,e⟩:=hW.rest;refine⟨t,D,?_⟩;rw[Nat.add_comm,<-vm,e,List.drop_append_of_le_length (by rw[bN];exact I)]
theorem ub.at_{i:Nat}(I:i<s.size):aa s' (i+k)=aa s i:=by obtain⟨t,N,e⟩:=hW.drop (jN I);unfold aa;(have M:(bytes s').getD (i+k) 0=((bytes s').drop (i+k)).getD 0 0:=by rw[gN,gN,kY,jP]);(have J:(bytes s).getD i 0=((bytes s).drop i).getD 0 0:=by rw[gN,gN,kY,jP]);show((bytes s').getD (i+k) 0).toNat=((bytes s).getD i 0).toNat;rw[M,J,e];(have D:0<((bytes s).drop i).length:=by rw[gR,bN];omega);rw[gN,gN,List.getElem?_append_left D]
theorem ub.cut{i j:Nat}(I:j<=s.size):s'.extract (i+k) (j+k)=s.extract i j:=by
 apply cm;rw[dN,dN];rcases jZ j i with h|h
 ·rw[show j+k-(i+k)=0 by omega,show j-i=0 by omega];rfl
 ·obtain⟨t,D,e⟩:=hW.drop (i:=i) (by omega);rw[e,show j+k-(i+k)=j-i by omega];rw[List.take_append_of_le_length (by rw[gR,bN];omega)]
variable {base:List cY} (hb:ed base=false)
include hb
end
theorem uI(s:ByteArray)(i:Nat):aa s i=((bytes s).getD i 0).toNat:=rfl
section
variable {s s':ByteArray} {k:Nat} (hW:ub s s' k)
include hW
end
theorem nW(s:ByteArray):∀(g i:Nat),(∀j,i<=j->j<s.size->0<aa s j/\aa s j<128)->iZ s g i=none
 |0,_,_=>rfl
 |g+1,i,h=>by
  rw[iZ];split
  ·rename_i D;obtain⟨J,I⟩:=h i (d5 _) D;rw[l6 s i I,gA (by simp only;omega)];exact nW s g (i+1) fun j hj hl=>h j (by omega) hl
  ·rfl
def tB:List ByteArray:=[(⟨#[43]⟩:BA),(⟨#[45]⟩:BA),(⟨#[42]⟩:BA),(⟨#[47]⟩:BA),(⟨#[37]⟩:BA),(⟨#[61,61]⟩:BA),(⟨#[33,61]⟩:BA),(⟨#[60]⟩:BA),(⟨#[60,61]⟩:BA),(⟨#[62]⟩:BA),(⟨#[62,61]⟩:BA),(⟨#[38,38]⟩:BA),(⟨#[124,124]⟩:BA)]
theorem Fq{l sub:List UInt8}{i:Nat}(h:occAt l sub i=true):∃r,l.drop i=sub++r:=by unfold occAt at h;simp at h;exact⟨_,(List.prefix_iff_eq_append.1 h).symm⟩
theorem Cn{l sub:List UInt8}(h:Lib.contains l sub=true):∃i,i<=l.length/\occAt l sub i=true:=by
 unfold Lib.contains at h;rw[gS]at h;rcases index_spec l sub with⟨e,_⟩|⟨i,_,I,D,_⟩
 ·omega
 ·exact⟨i,I,D⟩
theorem AJ(l:List UInt8)(c:UInt8):Lib.contains l [c]=l.contains c:=by unfold Lib.contains;rw[index_one,contains_iff_indexByte]
theorem nB{p:UInt8->Bool}:∀{l r:List UInt8}{c:UInt8},(∀x∈l,p x=true)->p c=false->(l++c::r).takeWhile p=l
 |[],r,c,_,hc=>by simp[hc]
 |x::l,r,c,h,hc=>by have D:=h x (by simp);rw[gV,qy,gE D,nB (fun y hy=>h y (by simp[hy])) hc]
theorem Fr:∀i,i<=60->(32::iR)[i]? = some 32->(tB.map (·.data.toList)).contains (((32::iR).drop (i+1)).takeWhile (fun c=>c != 32))=true\/((32::iR).drop (i+1)).takeWhile (fun c=>c != 32)=[]:=by decide +kernel
theorem Fs(s:ByteArray):iu s=tB.any fun x=>decide (s=x):=by
 rw[qb];constructor
 ·intro h;unfold iu at h;rw[gB,gB,gS,qr]at h;obtain⟨h0,N,h2⟩:=h;rw[AJ]at N;obtain⟨i,hi,ho⟩:=Cn h2;obtain⟨r,O⟩:=Fq ho;(have M:(32::iR)[i]? = some 32:=by have:=jH (fun l=>l[0]?) O;simpa using this);(have hd:(32::iR).drop (i+1)=s.data.toList++32::r:=by have:=jH (fun l=>l.drop 1) O;simpa[List.drop_drop,Nat.add_comm]using this);(have J:∀x∈s.data.toList,(x != 32)=true:=by intro x D;rw[kU];rintro rfl;rw[List.contains_eq_mem,gK]at N;exact N D);(have U:(32::iR).length<=60:=by decide +kernel);rcases Fr i (by omega) M with I|I
  ·rw[hd,nB J (by decide),List.contains_eq_mem,gS,List.mem_map]at I;obtain⟨x,D,e⟩:=I;rw[vq];refine⟨x,D,?_⟩;rw[gS];apply ByteArray.ext;exact Array.toList_inj.1 e.symm
  ·rw[hd,nB J (by decide)]at I;exact absurd (by apply ByteArray.ext;exact Array.toList_inj.1 I) h0
 ·intro h;rw[vq]at h;obtain⟨x,D,e⟩:=h;rw[gS]at e;subst e;(have:∀x∈tB,iu x=true:=by decide +kernel);exact this s D
theorem Cv(s:List UInt8)(h:(cut s [44]).2.2=true):s=(cut s [44]).1++44::(cut s [44]).2.1:=by
 unfold cut at h |-;split
 ·rename_i D;rw[index_one]at D |-;obtain⟨o,I⟩:=Int.eq_ofNat_of_zero_le D;have M:=(indexByte_some I).1;rw[I];show s=s.take o++44::s.drop (o+1);obtain⟨N,J⟩:=List.getElem?_eq_some_iff.1 M;rw[<-J,List.getElem_cons_drop,ve]
 ·rename_i D;rw[gA D]at h;cases h
theorem FB(s:List UInt8)(h:(cut s [44]).2.2=false):(cut s [44]).1=s:=by
 unfold cut at h |-;split
 ·rename_i D;rw[gE D]at h;cases h
 ·rfl
def sz:List It->Nat
 |[]=>0
 |a::l=>(Tk a).length+sz l
theorem RR:∀l,(ls l).length=sz l
 |[]=>rfl
 |a::l=>by rw[dB,gJ,RR l,sz]
theorem d9:∀l m,sz (l++m)=sz l+sz m
 |[],m=>by simp[sz]
 |a::l,m=>by simp[sz,d9 l m,Nat.add_assoc]
theorem iP:sz []=0:=rfl
theorem nF(b l):sz (cX b::l)=1+sz l:=rfl
theorem mD(l):sz (bc::l)=1+sz l:=rfl
theorem y7(b l):sz (.gap b::l)=1+sz l:=rfl
theorem GF(l):sz (.nl::l)=1+sz l:=rfl
theorem rh(x l):sz (iN x::l)=x.size+sz l:=rfl
theorem NV(x l):sz (pb x::l)=x.size+sz l:=rfl
theorem px(x l):sz (iy x::l)=x.size+sz l:=rfl
mutual
def ot:Nd->Nat
 | .mk _ t l _=>wv l+(4*t.size+10000)
def wv:List Nd->Nat
 |[]=>0
 |n::l=>ot n+wv l
end
theorem fi(n:Nd):ot n=wv n.kids+(4*n.text.size+10000):=by obtain⟨k,t,l,a⟩:=n;rw[ot];rfl
theorem y8(s:List It)(f:Nd->List It):∀l:List Nd,(∀x∈l,sz (f x)+sz s<=ot x)->sz (cv s (l.map f))<=wv l
 |[],_=>by simp[cv,sz]
 |[x],h=>by have:=h x (by simp);show sz (f x)<=_;rw[wv];omega
 |x::y::l,h=>by have:=h x (by simp);have ih:=y8 s f (y::l) fun z hz=>h z (qp _ hz);show sz (f x++(s++cv s ((y::l).map f)))<=_;rw[d9,d9,wv];omega
theorem ww(f:Nd->List It):∀l:List Nd,(∀x∈l,sz (f x)<=ot x)->sz (l.flatMap f)<=wv l
 |[],_=>by simp[sz]
 |x::l,h=>by have:=h x (by simp);have ih:=ww f l fun z hz=>h z (qp _ hz);rw[jA,d9,wv];omega
theorem wz(n:Nd)(f0 f1 f2 f3:Nd->Nat)(D:f0 bU<=1100/\f1 bU<=1100/\f2 bU<=1100/\f3 bU<=1100)(h:∀x,f0 x<=ot x/\f1 x<=ot x/\f2 x<=ot x/\f3 x<=ot x):
  f0 (aV n 0)+f1 (aV n 1)+f2 (aV n 2)+f3 (aV n 3)<=wv n.kids+4400:=by
 unfold aV;rcases n.kids with _|⟨a,_|⟨b,_|⟨c,_|⟨d,l⟩⟩⟩⟩
 ·show f0 bU+f1 bU+f2 bU+f3 bU<=_;omega
 ·have:=h a;show f0 a+f1 bU+f2 bU+f3 bU<=_;simp only[wv];omega
 ·have:=h a;have:=h b;show f0 a+f1 b+f2 bU+f3 bU<=_;simp only[wv];omega
 ·have:=h a;have:=h b;have:=h c;show f0 a+f1 b+f2 c+f3 bU<=_;simp only[wv];omega
 ·have:=h a;have:=h b;have:=h c;have:=h d;show f0 a+f1 b+f2 c+f3 d<=_;simp only[wv];omega
theorem NW(n:Nd)(f:Nd->Nat)(D:f bU<=1100)(h:∀x,f x<=ot x):f (aV n 0)+wv (n.kids.drop 1)<=wv n.kids+1100:=by
 unfold aV;cases n.kids with
 |nil=>exact jB (Nat.add_le_add_right D _) (by simp[wv])
 |cons a l=>have:=h a;show f a+wv l<=_;rw[wv];omega
theorem po(n:Nd)(f g:Nd->Nat)(I:f bU<=1100)(D:g bU<=1100)(h:∀x,f x<=ot x)(h':∀x,g x<=ot x):f (aV n 0)+g (aV n 1)<=wv n.kids+4400:=by have:=wz n f g (fun _=>0) (fun _=>0) ⟨I,D,by omega,by omega⟩ fun x=>⟨h x,h' x,gP _,gP _⟩;omega
theorem CH(n:Nd)(f:Nd->Nat)(D:f bU<=1100)(h:∀x,f x<=ot x):f (aV n 0)<=wv n.kids+4400:=by have:=po n f (fun _=>0) D (gP _) h fun _=>gP _;omega
theorem CI:∀n,sz (nI n)=n
 |0=>rfl
 |n+1=>by have:=CI n;show 1+sz (nI n)=_;omega
theorem P4(x:ByteArray):sz (dR x)<=x.size+1:=by
 unfold dR;split
 ·exact gP _
 ·exact d5 _
theorem NX(x:ByteArray):(cj (bytes x)).length<=4*x.size+2:=by
 have:∀l:List UInt8,(l.flatMap cu).length<=4*l.length:=by
  intro l;induction l with
  |nil=>exact d5 _
  |cons b l ih=>(have:(cu b).length<=4:=by unfold cu;(repeat' split);all_goals simp);rw[jA,gJ,gM];omega
 have:=this (bytes x);rw[bN]at this;unfold cj;show(_++[34]).length+1<=_;rw[gJ];show _+1+1<=_;omega
theorem NY(x:ByteArray):sz (ij x)<=x.size+6:=by
 unfold ij;split
 ·exact gP _
 ·split
  ·rename_i h;have:=jH List.length (Cv x.data.toList h);rw[gJ,gM,bN x]at this;show(iJ x).1.length+(1+(1+((iJ x).2.1.length+4)))<=_;unfold iJ;omega
  ·rename_i h;have:=FB x.data.toList (by simpa[iJ]using h);show(iJ x).1.length+4<=_;unfold iJ;rw[this];show x.size+4<=_;omega
def Tl(f:Nd->List It):Prop:=sz (f bU)=0/\∀n,sz (f n)+100<=ot n
theorem Tl.le{f:Nd->List It}(h:Tl f)(n:Nd):sz (f (aV n 0))<=wv n.kids+4400:=CH _ (fun x=>sz (f x)) (by rw[h.1];omega) fun x=>by have:=h.2 x;omega
theorem y9{f:Nd->List It}(h:Tl f)(n:Nd):sz (ez f n)+5000<=ot n:=by(have D:∀x:Nd,sz (cv ci (x.kids.map fun p=>dR p.text++f (aV p 0)))<=ot x:=fun x=>by(have:=y8 ci (fun p=>dR p.text++f (aV p 0)) x.kids fun p _=>by have:=h.le p;have:=P4 p.text;have:=fi p;rw[d9];show _+2<=_;omega);have:=fi x;omega);(have:=po n (fun x=>sz (cv ci (x.kids.map fun p=>dR p.text++f (aV p 0)))) (fun x=>sz (f x)) (gP _) (by rw[h.1];omega) D fun x=>by have:=h.2 x;omega);have:=fi n;unfold ez;split<;>simp only[iP,d9,nF,mD]<;>omega
theorem Er{f:Nd->List It}(h:Tl f)(n:Nd):sz (lN f n)+5000<=ot n:=by(have:=y8 [bc,cX 124,bc] (fun t=>iE t.text++f (aV t 0)) n.kids fun p _=>by have:=h.le p;have:=fi p;(have:sz (iE p.text)<=1:=by unfold iE;split<;>simp[sz,Tk,cX]);rw[d9];show _+3<=_;omega);have:=fi n;unfold lN;simp only[iP,d9,nF,mD,px,show((⟨#[105,110,116,101,114,102,97,99,101]⟩:BA).size=9)from rfl];omega
theorem NZ{f:Nd->List It}(h:∀n,sz (f n)+100<=ot n)(l:List Nd):sz (nu f l)<=wv l+2:=by
 (have:=y8 ci f l fun p _=>by have:=h p;show _+2<=_;omega);unfold nu;split
 ·exact gP _
 ·simp only[iP,d9,nF];omega
theorem N0:∀d,Tl (af d)
 |0=>⟨rfl,fun n=>by have:=fi n;show 0+100<=_;omega⟩
 |d+1=>by have ih:=N0 d;refine⟨rfl,fun n=>?_⟩;have:=fi n;have:=ih.le n;have:=y9 ih n;have:=Er ih n;have:=NZ ih.2 n.kids;unfold af;(repeat' split);all_goals(try simp only[nF,rh,px,show((⟨#[102,117,110,99]⟩:BA).size=4)from rfl]);omega
end
end Go.Proofs.YtiebcdeafofgdaaGreatDoor
