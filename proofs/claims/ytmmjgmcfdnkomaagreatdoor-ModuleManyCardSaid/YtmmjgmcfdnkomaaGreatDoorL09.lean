/-
  Parts of the proof: Munit Tright Mgate2 Mver1 Mver2 Mwords Mlines Mread. By an AI agent.
-/
import Derived.Test.YtmmjgmcfdnkomaaGreatDoorL08
import Derived.Test.YtmmjgmcfdnkomaaGreatDoorL01
import Derived.Test.YtmmjgmcfdnkomaaGreatDoorL04
import Derived.Test.YtmmjgmcfdnkomaaGreatDoorL05
import Derived.Deep.LoopGhost
import Derived.Laws.EntriesVeiled
set_option maxRecDepth 100000
set_option maxHeartbeats 8000000
namespace Go.Proofs.YtmmjgmcfdnkomaaGreatDoor
section
open Go.RowKit Go.Lib Go.Proofs
attribute [local go_sem ↓] Go.wp_at_zero Go.wp_at_succ
def uc (name:ByteArray) (mo:Int) (A:Option Addr) (c:Nat) (p:Int):Value:=.agg #[.string name,.int .i64 mo,.int .i64 1,.string (⟨#[109,97,105,110]⟩:BA),.slice A 0 c,.int .i64 p]
def oX (t:ByteArray):Value:=.agg #[.string (⟨#[]⟩:BA),.string t,.slice none 0 0]
structure iR (s:ByteArray) (A:Option Addr) (c:Nat) (is:Bool) (xt:ByteArray) (le p:Int) (w:World):Prop where
 of:∀ W,Below w.heap.size w W→Calls Tryz.prog 29 #[.slice A s.size c] W fun e w'=>e=.returned (.tuple #[oX xt,.bool is,.int .i64 0])∧Below W.heap.size W w'
 good:is=true→0≤le
 holds:is=true→∀ W,Calls Tryz.prog 30 #[oX xt,.slice none 0 0] W fun e w'=>e=.returned (.bool true)∧Below W.heap.size W w'
 least:∀ W,Calls Tryz.prog 31 #[oX xt] W fun e w'=>e=.returned (.int .i64 le)∧Below W.heap.size W w'
 read:∀ W,Below w.heap.size w W→Calls Tryz.prog 32 #[.slice A s.size c] W fun e w'=>∃ v,e=.returned (.tuple #[v,.int .i64 0,.int .i64 0])∧bo w' v ⟨1,(⟨#[109,97,105,110]⟩:BA),[],p⟩∧Below W.heap.size W w'
 first:∀ (W:World) (v:Value) (m:Int),Below w.heap.size w W→bo W v ⟨1,(⟨#[109,97,105,110]⟩:BA),[],p⟩→Calls Tryz.prog 34 #[v,.int .i64 m] W fun e w'=>e=.returned (.tuple #[.agg #[.int .i64 0,.int .i64 0],.bool false])∧Below W.heap.size W w'
theorem iR.below {s:ByteArray} {A:Option Addr} {c:Nat} {is:Bool} {xt:ByteArray} {le p:Int} {w w1:World} (h:iR s A c is xt le p w) (hb:Below w.heap.size w w1):iR s A c is xt le p w1:=
 ⟨fun W k=>h.of W (ah hb k),h.good,h.holds,h.least,fun W k=>h.read W (ah hb k),fun W v m k=>h.first W v m (ah hb k)⟩
def cg (is:Bool) (le mi:Int):Int:=if is=true then le else mi
theorem tC {W:World} {b:Nat} {t:TypeId} {z0 z1 z2 z3 z4 z5:Value} (h:ac W b t #[z0,z1,z2,z3,z4,z5]) (a0 a1 a2 a3 a4 a5:Value) :
  ac ((((((W.setCell ⟨b,0,none⟩ a0).setCell ⟨b,1,none⟩ a1).setCell ⟨b,2,none⟩ a2).setCell ⟨b,3,none⟩ a3).setCell ⟨b,4,none⟩ a4).setCell ⟨b,5,none⟩ a5) b t #[a0,a1,a2,a3,a4,a5]:=by simpa using (((((h.set_ 0 a0).set_ 1 a1).set_ 2 a2).set_ 3 a3).set_ 4 a4).set_ 5 a5
theorem tD {n:Nat} {w W:World} (h:Below n w W) {b:Nat} (hb:n≤b) (a0 a1 a2 a3 a4 a5:Value) :
  Below n w ((((((W.setCell ⟨b,0,none⟩ a0).setCell ⟨b,1,none⟩ a1).setCell ⟨b,2,none⟩ a2).setCell ⟨b,3,none⟩ a3).setCell ⟨b,4,none⟩ a4).setCell ⟨b,5,none⟩ a5):=
 (((((h.setCell (p:=⟨b,0,none⟩) hb a0).setCell (p:=⟨b,1,none⟩) hb a1).setCell (p:=⟨b,2,none⟩) hb a2).setCell (p:=⟨b,3,none⟩) hb a3).setCell (p:=⟨b,4,none⟩) hb a4).setCell (p:=⟨b,5,none⟩) hb a5
theorem me {fn:Func} {q r1 r2:Tmp} (I:fn.results = #[.cell q 43,.tmp r1,.tmp r2]) (tmps:Array Value) {w:World} {g:Nat} {a b c d e f v1 v2:Value} (h:tmps.getD q undef=.pointer (some ⟨g,0,none⟩)) (k:tmps.getD r1 undef=v1) (j:tmps.getD r2 undef=v2) (hb:ac w g 43 #[a,b,c,d,e,f]) :
  (results fn tmps).run Tryz.prog w=.ok (.tuple #[.agg #[a,b,c,d,e,f],v1,v2]) w:=by have U:w.cell? ⟨g,0,none⟩=some a:=(hb.cell 0).trans rfl;have S:w.cell? ⟨g,1,none⟩=some b:=(hb.cell 1).trans rfl;have Q:w.cell? ⟨g,2,none⟩=some c:=(hb.cell 2).trans rfl;have O:w.cell? ⟨g,3,none⟩=some d:=(hb.cell 3).trans rfl;have N:w.cell? ⟨g,4,none⟩=some e:=(hb.cell 4).trans rfl;have M:w.cell? ⟨g,5,none⟩=some f:=(hb.cell 5).trans rfl;unfold results;rw [I];(have D:tmps[q]?.getD undef=.pointer (some ⟨g,0,none⟩):=by simpa using h);(have K:tmps[r1]?.getD undef=v1:=by simpa using k);(have J:tmps[r2]?.getD undef=v2:=by simpa using j);simp [D,K,J,go_sem,U,S,Q,O,N,M]
theorem tE (name s:ByteArray) (A:Option Addr) (c:Nat) (is:Bool) (xt:ByteArray) (le p mi:Int) (w:World) (h:iR s A c is xt le p w) :
  Calls Tryz.prog 16 #[eQ (name,.slice A s.size c),.int .i64 mi,.slice none 0 0] w fun e w'=>∃ A2 c2,e=.returned (.tuple #[uc name (cg is le mi) A2 c2 p,.bool true,.slice none 0 0])∧Below w.heap.size w w':=by
 have g5:∀ (fn:Fn) (first cap:Array Value) (w:World),(Instr.makeFunc fn first cap).run Tryz.prog w=.ok (.func fn first cap) w:=fun _ _ _ _=>rfl;have z:Below w.heap.size w ((w.alloc (.cells #[.string name,.slice A s.size c] 46)).alloc (.cells #[.string (⟨#[]⟩:BA),.int .i64 0,.int .i64 0,.string (⟨#[]⟩:BA),.slice none 0 0,.int .i64 0] 43)):=bel;have gr:=(ac.new w 46 #[.string name,.slice A s.size c]).alloc (.cells #[.string (⟨#[]⟩:BA),.int .i64 0,.int .i64 0,.string (⟨#[]⟩:BA),.slice none 0 0,.int .i64 0] 43);have gk:=ac.new_at (w:=w.alloc (.cells #[.string name,.slice A s.size c] 46)) (n:=w.heap.size+1) (by simp) 43 #[.string (⟨#[]⟩:BA),.int .i64 0,.int .i64 0,.string (⟨#[]⟩:BA),.slice none 0 0,.int .i64 0];have ga:=hid (h.of _ z);have gy:=hid h.holds;have gb:=hid h.least;have g2:=hid h.read;have g3:=hid h.first;have gz:=hid h.good;unfold eQ;unfold oX at ga gy gb;clear h;(go_enter Tryz.func16,Tryz.ntmps16);(go_wp2_with fail);refine ga.out.mono ?_;rintro e w1 ⟨rfl,j⟩;have gx:=ah z j;have gq:=gr.bl j;have gj:=gk.bl j;clear ga z gr gk j;have U:Below w1.heap.size w1 (w1.alloc (.cells #[.string (⟨#[]⟩:BA),.string xt,.slice none 0 0] 82)):=bel;have u:=ah gx U;have q:=gq.bl U;have o:=gj.bl U;have J:=ac.new w1 82 #[.string (⟨#[]⟩:BA),.string xt,.slice none 0 0];clear gx gq gj U;have c0:=(J.cell 0).trans rfl;have c1:=(J.cell 1).trans rfl;have c2:=(J.cell 2).trans rfl;cases is
 rotate_left
 have g6:decide ((0:Int)≤le)=true:=decide_eq_true (gz.out rfl);have g4:(0:Int)≤le:=gz.out rfl;(go_wp2_with fail);refine (gy.out trivial _).mono ?_;rintro e w3 ⟨rfl,O⟩;have gw:=ah u O;have gp:=q.bl O;have gi:=o.bl O;have k:=J.bl O;clear u q o J O c0 c1 c2;have c0:=(k.cell 0).trans rfl;have c1:=(k.cell 1).trans rfl;have c2:=(k.cell 2).trans rfl;(go_wp2_with fail);refine (gb.out _).mono ?_;rintro e w4 ⟨rfl,I⟩;have r:=ah gw I;have Q:=gp.bl I;have x:=gi.bl I;have s1:=(Q.cell 1).trans rfl;clear gw gp gi k I c0 c1 c2;go_wp2_with fail
 rotate_left
 refine (gb.out _).mono ?_;rintro e w4 ⟨rfl,I⟩;have r:=ah u I;have Q:=q.bl I;have x:=o.bl I;have s1:=(Q.cell 1).trans rfl;clear u q o J I c0 c1 c2;(go_wp2_with fail);all_goals refine (g2.out _ r).mono ?_;rintro e w5 ⟨v,rfl,hv,S⟩;obtain ⟨A2,c2,rfl,-⟩:=hv.toC;simp only [Nd.kids_mk,Nd.kind_mk,Nd.text_mk,Nd.pos_mk,List.length_nil] at *;have gv:=ah r S;have gn:=Q.bl S;have gh:=x.bl S;clear r Q x S s1;have N:Below w5.heap.size w5 (w5.alloc (.cells #[.int .i64 1,.string (⟨#[109,97,105,110]⟩:BA),.slice A2 0 c2,.int .i64 p] 41)):=bel;have y:=ah gv N;have gm:=gn.bl N;have gg:=gh.bl N;have gt:=ac.new w5 41 #[.int .i64 1,.string (⟨#[109,97,105,110]⟩:BA),.slice A2 0 c2,.int .i64 p];have gd:=hv.below N;clear gv gn gh N hv;(go_wp2_with fail);refine (g3.out _ _ _ y gd).mono ?_;rintro e w7 ⟨rfl,M⟩;have gu:=ah y M;have gl:=gm.bl M;have ge:=gg.bl M;have gs:=gt.bl M;clear y gm gg gt M gd;have K:Below w7.heap.size w7 (w7.alloc (.cells #[.int .i64 0,.int .i64 0] 91)):=bel;have g1:=ah gu K;have g0:=gl.bl K;have D:=ge.bl K;obtain ⟨n0,n1,n2,n3,-,-,-,-⟩:=aJ (gs.bl K);have s0:=(g0.cell 0).trans rfl;have f0:=D.frozen 0;have f1:=D.frozen 1;have f2:=D.frozen 2;have f3:=D.frozen 3;have f4:=D.frozen 4;have f5:=D.frozen 5;have u0:=(D.cell 0).trans rfl;have u1:=(D.cell 1).trans rfl;have u2:=(D.cell 2).trans rfl;have u3:=(D.cell 3).trans rfl;have u4:=(D.cell 4).trans rfl;have u5:=(D.cell 5).trans rfl;clear gu gl ge gs K;(go_wp2_with fail);have hE:=fun mo=>tC D (.string name) (.int .i64 mo) (.int .i64 1) (.string (⟨#[109,97,105,110]⟩:BA)) (.slice A2 0 c2) (.int .i64 p);refine bodyPost_ret (me rfl _ (by rfl) (by rfl) (by rfl) (hE _)) rfl ⟨A2,c2,rfl,tD g1 (Nat.le_succ _) _ _ _ _ _ _⟩
theorem pY (t:TypeId) (w:World):(Instr.makeMap t none).run Tryz.prog w=.ok (.map (some w.heap.size)) (w.alloc (.map #[] 0)):=rfl
theorem sJ {α:Type} (a:Array α) (x y:α):(a.push x).setIfInBounds a.size y=a.push y:=by rw [Array.push_eq_append,Array.push_eq_append,←Array.toList_inj];simp [Array.toList_setIfInBounds]
theorem sK (e:Bool) (k:ByteArray) (w:World):(Instr.checkKey e 10000 9 (.string k)).run Tryz.prog w=.ok () w:=by show (Instr.checkKey e (9999+1) 9 (.string k)).run Tryz.prog w=.ok () w;rw [Instr.checkKey];simp only [Sem.run_bind,run_underlying Tryz.underlying9,Result.andThen_ok,Sem.run_pure]
theorem aZ (w:World) (es:Array MapEntry) (clock:Nat) (key:ByteArray) (v:Value) (I:Instr.findNow .string (.string key) es.toList 0=some none) :
  (Instr.mapUpdate 208 (.map (some w.heap.size)) (.string key) v).run Tryz.prog (w.alloc (.map es clock))=.ok () (w.alloc (.map (es.push ⟨.string key,v,clock⟩) (clock+1))):=by have hb:(w.alloc (.map es clock)).heap[w.heap.size]? = some (.map es clock):=heap_alloc_new w _;(have J:(getObj w.heap.size).run Tryz.prog (w.alloc (.map es clock))=.ok (.map es clock) (w.alloc (.map es clock)):=by rw [getObj,Sem.run,hb];rfl);(have D:(setObj w.heap.size (.map (es.push ⟨.string key,v,clock⟩) (clock+1))).run Tryz.prog (w.alloc (.map es clock))=.ok () (w.alloc (.map (es.push ⟨.string key,v,clock⟩) (clock+1))):=by rw [setObj,Sem.run,hb];exact congrArg (fun h=>Result.ok () { w with heap:=h }) (sJ w.heap _ _));unfold Instr.mapUpdate;simp only [run_underlying Tryz.underlying208,Sem.run_bind,Result.andThen_ok,J,sK,run_underlying Tryz.underlying9,Instr.findKey,I,Sem.run_pure,D]
def ec:Array MapEntry:=#[⟨.string (⟨#[102,105,108,101]⟩:BA),.func (.func 195) #[] #[],0⟩,⟨.string (⟨#[100,101,99,108,97,114,97,116,105,111,110]⟩:BA),.func (.func 198) #[] #[],1⟩,⟨.string (⟨#[116,121,112,101]⟩:BA),.func (.func 199) #[] #[],2⟩,
 ⟨.string (⟨#[101,120,112,114,101,115,115,105,111,110]⟩:BA),.func (.func 200) #[] #[],3⟩,⟨.string (⟨#[115,116,97,116,101,109,101,110,116]⟩:BA),.func (.func 201) #[] #[],4⟩,⟨.string (⟨#[115,105,103,110,97,116,117,114,101]⟩:BA),.func (.func 202) #[] #[],5⟩]
theorem pZ (w:World):Calls Tryz.prog 145 #[] w fun e w'=>e=.returned (.map (some w.heap.size))∧w'=w.alloc (.map ec 6):=by have D:=pY;have O:=aZ w #[] 0 (⟨#[102,105,108,101]⟩:BA) (.func (.func 195) #[] #[]) rfl;have N:=aZ w #[⟨.string (⟨#[102,105,108,101]⟩:BA),.func (.func 195) #[] #[],0⟩] 1 (⟨#[100,101,99,108,97,114,97,116,105,111,110]⟩:BA) (.func (.func 198) #[] #[]) rfl;have M:=aZ w #[⟨.string (⟨#[102,105,108,101]⟩:BA),.func (.func 195) #[] #[],0⟩,⟨.string (⟨#[100,101,99,108,97,114,97,116,105,111,110]⟩:BA),.func (.func 198) #[] #[],1⟩] 2 (⟨#[116,121,112,101]⟩:BA) (.func (.func 199) #[] #[]) rfl;have K:=aZ w #[⟨.string (⟨#[102,105,108,101]⟩:BA),.func (.func 195) #[] #[],0⟩,⟨.string (⟨#[100,101,99,108,97,114,97,116,105,111,110]⟩:BA),.func (.func 198) #[] #[],1⟩,⟨.string (⟨#[116,121,112,101]⟩:BA),.func (.func 199) #[] #[],2⟩] 3 (⟨#[101,120,112,114,101,115,115,105,111,110]⟩:BA) (.func (.func 200) #[] #[]) rfl;have J:=aZ w #[⟨.string (⟨#[102,105,108,101]⟩:BA),.func (.func 195) #[] #[],0⟩,⟨.string (⟨#[100,101,99,108,97,114,97,116,105,111,110]⟩:BA),.func (.func 198) #[] #[],1⟩,⟨.string (⟨#[116,121,112,101]⟩:BA),.func (.func 199) #[] #[],2⟩,⟨.string (⟨#[101,120,112,114,101,115,115,105,111,110]⟩:BA),.func (.func 200) #[] #[],3⟩] 4 (⟨#[115,116,97,116,101,109,101,110,116]⟩:BA) (.func (.func 201) #[] #[]) rfl;have I:=aZ w #[⟨.string (⟨#[102,105,108,101]⟩:BA),.func (.func 195) #[] #[],0⟩,⟨.string (⟨#[100,101,99,108,97,114,97,116,105,111,110]⟩:BA),.func (.func 198) #[] #[],1⟩,⟨.string (⟨#[116,121,112,101]⟩:BA),.func (.func 199) #[] #[],2⟩,⟨.string (⟨#[101,120,112,114,101,115,115,105,111,110]⟩:BA),.func (.func 200) #[] #[],3⟩,⟨.string (⟨#[115,116,97,116,101,109,101,110,116]⟩:BA),.func (.func 201) #[] #[],4⟩] 5 (⟨#[115,105,103,110,97,116,117,114,101]⟩:BA) (.func (.func 202) #[] #[]) rfl;(go_enter Tryz.func145,Tryz.ntmps145);(go_wp2_with fail);go_ret;exact ⟨rfl,rfl⟩
theorem sL (w:World) (b:Nat) (key:ByteArray) (v:Value) (i:Nat) (hb:w.heap[b]? = some (.map ec 6)) (D:Instr.findNow .string (.string key) ec.toList 0=some (some (i,v))) :
  (Instr.lookup 208 (.map (some b)) (.string key) true).run Tryz.prog w=.ok (.tuple #[v,.bool true]) w:=by (have I:(getObj b).run Tryz.prog w=.ok (.map ec 6) w:=by rw [getObj,Sem.run,hb];rfl);unfold Instr.lookup;simp only [run_underlying Tryz.underlying208,Sem.run_bind,Result.andThen_ok,I,sK,run_underlying Tryz.underlying9,Instr.findKey,D,Sem.run_pure,if_true]
theorem sM (a:Array Value) (w:World):(callFunc 198 a).run Tryz.prog w=.ok (.enter 198 a) w:=by kernel_rfl
theorem sN (a:Array Value) (w:World):(callFunc 195 a).run Tryz.prog w=.ok (.enter 195 a) w:=by kernel_rfl
theorem tU (g:Nat) (F:bZ) (D:fY g F):bF g (eq F) 198:=by
 cases g with
 | zero=>exact fun _ _ _ _ _ h=>h.elim
 | succ d=>exact uA d F D.pred
theorem uI (g:Nat) (F:bZ) (U:fY g F):bF (g+1) (lF F) 195:=by
 intro w v n S hv hd;have K:=hv;obtain ⟨A,cp,rfl,r⟩:=hv.toC;have M:=(aq w #[.int .i64 n.kind,.string n.text,.slice A n.kids.length cp,.int .i64 n.pos]).1;have u:=(aq w #[.int .i64 n.kind,.string n.text,.slice A n.kids.length cp,.int .i64 n.pos]).2;have o:=hid (fun w' (hb:Below (w.alloc (.cells #[.int .i64 n.kind,.string n.text,.slice A n.kids.length cp,.int .i64 n.pos] 41)).heap.size (w.alloc (.cells #[.int .i64 n.kind,.string n.text,.slice A n.kids.length cp,.int .i64 n.pos] 41)) w')=>b8 g (eq F) ⟨198,#[]⟩ A cp n.kids _ ((K.below M).below hb).kidsV hd.2 hd.1.1 ((tU g F U).so sM _ ((S.below M).below hb)));(have h:lF F n=((n.kind==1)&&(ap n.text&&n.kids.all (eq F))):=by unfold lF;rw [b7]);rw [h];clear h K hv r S U hd;generalize n.kids.all (eq F)=q at *;generalize n.kind=k at *;cases j:(k==1) with
 | false=>(go_enter Tryz.func195,Tryz.ntmps195);(go_wp2_with fail);go_ret;exact ⟨rfl,M⟩
 | true=>
  rw [beq_iff_eq] at j;subst j;cases Q:ap n.text with
  | false=>(go_enter Tryz.func195,Tryz.ntmps195);(go_wp2_with fail);refine (ic _ _).mono ?_;rw [Q];rintro e w1 ⟨rfl,D⟩;have I:=ah M D;clear D;(go_wp2_with fail);go_ret;exact ⟨rfl,I⟩
  | true=>(go_enter Tryz.func195,Tryz.ntmps195);(go_wp2_with fail);refine (ic _ _).mono ?_;rw [Q];rintro e w1 ⟨rfl,D⟩;have I:=ah M D;have O:=hid (o.out _ D);obtain ⟨x0,z,y,x,_,_,_,_⟩:=aJ (u.below D (by simp));clear D o;(go_wp2_with fail);refine O.out.mono ?_;rintro e w2 ⟨rfl,J⟩;have N:=ah I J;clear J;(go_wp2_with fail);go_ret;exact ⟨rfl,N⟩
theorem oE (v:Value) (n:Nd) (w:World) (I:bo w v n) (D:nS 101 n) :
 Calls Tryz.prog 146 #[v] w fun e w'=>e=.returned (.int .i64 (dS n:Int))∧Below w.heap.size w w':=callsIn_wide.1 (pX v n w I D)
theorem p4 (v:Value) (n:Nd) (w:World) (I:bo w v n) (D:nS 100 n) (J:(aG 100 n).length≤1000000000) :
 Calls Tryz.prog 147 #[v] w fun e w'=>e=.returned (.int .i64 ((aG 100 n).length:Int))∧Below w.heap.size w w':=callsIn_wide.1 (sH v n w I D J)
theorem nS.pred:∀ {g:Nat} {n:Nd},nS (g+1) n→nS g n
 | 0,_,_=>trivial
 | _+1,_,h=>⟨h.1,fun k hk=>nS.pred (h.2 k hk)⟩
theorem mn (n:Nd):dy n=(decide ((dS n:Int)≤100)&&(decide (((aG 100 n).length:Int)≤65536)&&lF (lc 100) n)):=by (have I:decide ((dS n:Int)≤100)=decide (dS n≤100):=by rw [decide_eq_decide];omega);(have D:decide (((aG 100 n).length:Int)≤65536)=decide ((aG 100 n).length≤65536):=by rw [decide_eq_decide];omega);rw [I,D];unfold dy t8;generalize lF (lc 100) n=q;rfl
theorem lW (v:Value) (n:Nd) (w:World) (y:ay w) (S:bo w v n) (r:nS 101 n) (x:(aG 100 n).length≤1000000000) :
  Calls Tryz.prog 97 #[v,.string (⟨#[102,105,108,101]⟩:BA)] w fun e w'=>e=.returned (.bool (dy n))∧Below w.heap.size w w':=by
 have K:=S;obtain ⟨A,cp,rfl,hC⟩:=S.toC;have Q:=((Below.refl w.heap.size w).alloc (Nat.le_refl _) (.cells #[.int .i64 n.kind,.string n.text,.slice A n.kids.length cp,.int .i64 n.pos] 41)).alloc (by simp) (.map ec 6);have z:ac ((w.alloc (.cells #[.int .i64 n.kind,.string n.text,.slice A n.kids.length cp,.int .i64 n.pos] 41)).alloc (.map ec 6)) w.heap.size 41 #[.int .i64 n.kind,.string n.text,.slice A n.kids.length cp,.int .i64 n.pos]:=(ac.new w _ _).alloc _;have ga:=sL ((w.alloc (.cells #[.int .i64 n.kind,.string n.text,.slice A n.kids.length cp,.int .i64 n.pos] 41)).alloc (.map ec 6)) (w.heap.size+1) (⟨#[102,105,108,101]⟩:BA) (.func (.func 195) #[] #[]) 0 (cz (by simp) _) rfl;have HV:=hid (K.below Q);have HT:=hid (y.below Q);have h:=hid r;have HC:=hid x;have he:=sN;clear K S hC y r x;(go_enter Tryz.func97,Tryz.ntmps97);(go_wp2_with fail);refine (pZ _).mono ?_;rintro e w1 ⟨rfl,rfl⟩;(go_wp2_with fail);refine (oE _ n _ HV.out h.out).mono ?_;rintro e w1 ⟨rfl,I⟩;have q:=hid (mn n);have N:=ah Q I;have c1:=z.below I (by simp;omega);obtain ⟨x0,x1,x2,x3,_,_,_,_⟩:=aJ c1;have O:=hid (HV.out.below I);have o:=hid (HT.out.below I);clear I z Q;cases hd:decide ((dS n:Int)≤100) with
 | false=>(go_wp2_with fail);go_ret;exact ⟨by rw [q.out,hd];rfl,N⟩
 | true=>
  have HD:=hid (l8 (h.out.pred) (by have:=of_decide_eq_true hd;omega));(go_wp2_with fail);refine (p4 _ n _ O.out h.out.pred HC.out).mono ?_;rintro e w2 ⟨rfl,D⟩;have M:=ah N D;have c2:=c1.bl D;obtain ⟨y0,y1,y2,y3,_,_,_,_⟩:=aJ c2;have j:=hid (O.out.below D);have k:=hid (o.out.below D);clear D c1 c2 x0 x1 x2 x3;cases u:decide (((aG 100 n).length:Int)≤65536) with
  | false=>(go_wp2_with fail);go_ret;exact ⟨by rw [q.out,hd,u];rfl,M⟩
  | true=>(go_wp2_with fail);refine (uI 100 (lc 100) (uN 100) _ _ n k.out j.out HD.out.succ).mono ?_;rintro e w3 ⟨rfl,J⟩;have U:=ah M J;clear J;(go_wp2_with fail);go_ret;exact ⟨by rw [q.out,hd,u];rfl,U⟩
theorem p8 (v:Value) (t:ByteArray) (p:Int) (w:World) (Q:ay w) (M:bo w v ⟨1,t,[],p⟩) (h:t.size≤1000000000) :
  Calls Tryz.prog 61 #[v] w fun e w'=>e=.returned (.slice none 0 0)∧Below w.heap.size w w':=by
 have J:=hid M;obtain ⟨A,cp,rfl,o⟩:=M.toC;simp only [Nd.kids_mk,Nd.kind_mk,Nd.text_mk,Nd.pos_mk,List.length_nil] at *;have K:Below w.heap.size w (w.alloc (.cells #[.int .i64 1,.string t,.slice A 0 cp,.int .i64 p] 41)):=bel;have S:=ac.new w 41 #[.int .i64 1,.string t,.slice A 0 cp,.int .i64 p];have U:=hid (lW _ ⟨1,t,[],p⟩ _ (Q.below K) (J.out.below K) ⟨⟨Nat.zero_le _,h⟩,fun k j=>by cases j⟩ (by rw [show aG 100 (⟨1,t,[],p⟩:Nd)=[100] from rfl];decide));clear M o J Q;(go_enter Tryz.func61,Tryz.ntmps61);(go_wp2_with fail);refine U.out.mono ?_;rintro e w1 ⟨rfl,D⟩;have I:=ah K D;obtain ⟨x,u,r,q,-,-,-,-⟩:=aJ (S.bl D);clear U K D S;cases dy ⟨1,t,[],p⟩ with
 | false=>(go_wp2_with fail);go_ret;exact ⟨rfl,I⟩
 | true=>(go_wp2_with fail);refine (p6 A cp t p _).mono ?_;rintro e w2 ⟨rfl,N⟩;have O:=ah I N;(go_wp2_with fail);refine (sV _).mono ?_;rintro e w3 ⟨rfl,rfl⟩;(go_wp2_with fail);refine (sR _).mono ?_;rintro e w4 ⟨rfl,rfl⟩;(go_wp2_with fail);go_ret;exact ⟨rfl,O⟩
theorem i8 (v:Value) (t:ByteArray) (p m:Int) (w:World) (U:ay w) (O:bo w v ⟨1,t,[],p⟩) (r:t.size≤1000000000) :
  Calls Tryz.prog 34 #[v,.int .i64 m] w fun e w'=>e=.returned (.tuple #[.agg #[.int .i64 0,.int .i64 0],.bool false])∧Below w.heap.size w w':=by have K:=hid O;obtain ⟨A,cp,rfl,x⟩:=O.toC;simp only [Nd.kids_mk,Nd.kind_mk,Nd.text_mk,Nd.pos_mk,List.length_nil] at *;have M:Below w.heap.size w (((w.alloc (.cells #[.int .i64 1,.string t,.slice A 0 cp,.int .i64 p] 41)).alloc (.cells #[.int .i64 m] 3)).alloc (.cells #[.int .i64 0,.int .i64 0] 91)):=bel;have h:ac (((w.alloc (.cells #[.int .i64 1,.string t,.slice A 0 cp,.int .i64 p] 41)).alloc (.cells #[.int .i64 m] 3)).alloc (.cells #[.int .i64 0,.int .i64 0] 91)) (w.heap.size+1+1) 91 #[.int .i64 0,.int .i64 0]:=ac.new_at (by simp) _ _;have j:=hid (p8 _ t p _ (U.below M) (K.out.below M) r);clear O x K U;(go_enter Tryz.func34,Tryz.ntmps34);(go_wp2_with fail);refine j.out.mono ?_;rintro e w1 ⟨rfl,D⟩;have S:=ah M D;have J:=h.bl D;clear j M D h;(go_wp2_with fail);refine (sQ _ _).mono ?_;rintro e q ⟨rfl,rfl⟩;have c0:=(J.cell 0).trans rfl;have c1:=(J.cell 1).trans rfl;have y:=J.frozen 0;have f1:=J.frozen 1;(go_wp2_with fail);have u:=(J.set_ 0 (.int .i64 0)).set_ 1 (.int .i64 0);have Q:=(S.setCell (p:=⟨w.heap.size+1+1,0,none⟩) (by show w.heap.size≤w.heap.size+1+1;omega) (.int .i64 0)).setCell (p:=⟨w.heap.size+1+1,1,none⟩) (by show w.heap.size≤w.heap.size+1+1;omega) (.int .i64 0);generalize (q.setCell ⟨w.heap.size+1+1,0,none⟩ (.int .i64 0)).setCell ⟨w.heap.size+1+1,1,none⟩ (.int .i64 0)=N at *;(have I:ac N (w.heap.size+1+1) 91 #[.int .i64 0,.int .i64 0]:=by simpa using u);have o:N.cell? ⟨w.heap.size+1+1,0,none⟩=some (.int .i64 0):=(I.cell 0).trans rfl;have k:N.cell? ⟨w.heap.size+1+1,1,none⟩=some (.int .i64 0):=(I.cell 1).trans rfl;refine bodyPost_ret (v:=.tuple #[.agg #[.int .i64 0,.int .i64 0],.bool false]) ?_ rfl ⟨rfl,Q⟩;simp [results,Tryz.results34,go_sem,o,k]
end
section
open Go.RowKit Go.Lib Go.Proofs Go.Shelf
attribute [local go_sem ↓] Go.wp_at_zero Go.wp_at_succ
theorem tF (w:World):Calls Tryz.prog 40 #[.int .i32 97] w fun e w'=>e=.returned (.bool true)∧w'=w:=by (go_enter Tryz.func40,Tryz.ntmps40);(go_wp2_with fail);go_ret;exact ⟨rfl,rfl⟩
theorem uT (w:World):Calls Tryz.prog 42 #[.string (⟨#[97]⟩:BA),.func (.func 40) #[] #[]] w fun e w'=>e=.returned (.bool true)∧Below w.heap.size w w':=by have hit:=World.iter_heap w (⟨#[97]⟩:BA) 0;have I:=fun ty=>run_next_any_at (P:=Tryz.prog) (w.iter (⟨#[97]⟩:BA) 0) w.heap.size (⟨#[97]⟩:BA) 0 ty hit (by decide);rw [show Utf8.decode (⟨#[97]⟩:BA) 0=(97,1) by decide +kernel] at I;have D:=iterAt_heap (w.iter (⟨#[97]⟩:BA) 0) w.heap.size (⟨#[97]⟩:BA) 0 (0+1) hit;have J:=fun ty=>run_next_end_at (P:=Tryz.prog) ((w.iter (⟨#[97]⟩:BA) 0).iterAt w.heap.size (⟨#[97]⟩:BA) (0+1)) w.heap.size (⟨#[97]⟩:BA) (0+1) ty D (by decide);have K:=hid (show Below w.heap.size w ((w.iter (⟨#[97]⟩:BA) 0).iterAt w.heap.size (⟨#[97]⟩:BA) (0+1)) from ao ((Below.refl w.heap.size w).alloc (Nat.le_refl _) _) (Nat.le_refl _));clear hit D;(go_enter Tryz.func42,Tryz.ntmps42);(go_wp2_with fail);refine wp_loop_rounds 2 ?_;rw [rounds_succ];(go_wp2_with fail);refine (tF _).mono ?_;rintro e w1 ⟨rfl,rfl⟩;(go_wp2_with fail);rw [rounds_succ];(go_wp2_with fail);go_ret;exact ⟨rfl,K.out⟩
end
section
open Go.RowKit Go.Lib Go.Proofs Go.Shelf
attribute [local go_sem ↓] Go.wp_at_zero Go.wp_at_succ
attribute [local go_sem] Oper.semAt_some
theorem fR (s sep:ByteArray) (w:World):Calls Tryz.prog 38 #[.string s,.string sep] w fun e w'=>
  e = .returned (.func (.func 112) #[] #[.pointer (some ⟨w.heap.size+1,0,none⟩),.pointer (some ⟨w.heap.size,0,none⟩),.pointer (some ⟨w.heap.size+2,0,none⟩)]) ∧
    Below w.heap.size w w'∧w'.heap.size=w.heap.size+3∧ac w' w.heap.size 9 #[.string s]∧ac w' (w.heap.size+1) 9 #[.string sep]∧ac w' (w.heap.size+2) 3 #[.int .i64 0]:=by
 have J:∀ (fn:Fn) (first cap:Array Value) (w:World),(Instr.makeFunc fn first cap).run Tryz.prog w=.ok (.func fn first cap) w:=fun _ _ _ _=>rfl;have D:Calls Tryz.prog 64 #[.string s,.string sep,.int .i64 0] w fun e w'=>
  e = .returned (.func (.func 112) #[] #[.pointer (some ⟨w.heap.size+1,0,none⟩),.pointer (some ⟨w.heap.size,0,none⟩),.pointer (some ⟨w.heap.size+2,0,none⟩)]) ∧
    Below w.heap.size w w'∧w'.heap.size=w.heap.size+3∧ac w' w.heap.size 9 #[.string s]∧ac w' (w.heap.size+1) 9 #[.string sep]∧ac w' (w.heap.size+2) 3 #[.int .i64 0]:=by
  (go_enter Tryz.func64,Tryz.ntmps64);(go_wp2_with fail);go_ret;exact ⟨rfl,bel,by simp,((ac.new w _ _).alloc _).alloc _,(ac.new_at (by simp) _ _).alloc _,ac.new_at (by simp) _ _⟩
 have I:=hid D;clear D;(go_enter Tryz.func38,Tryz.ntmps38);(go_wp2_with fail);refine I.out.mono ?_;rintro e w1 ⟨rfl,h⟩;have H:=hid h;clear h;(go_wp2_with fail);go_ret;exact ⟨rfl,H.out⟩
theorem lK (a:Array Value) (w:World):(callFunc 112 a).run Tryz.prog w=.ok (.enter 112 a) w:=by kernel_rfl
theorem Ab.blk {n:Nat} {Bx:Nat→Prop} {X Y:World} (h:Ab n Bx X Y) {b:Nat} {t:TypeId} {cs:Array Value} (hb:ac X b t cs) (D:¬ Bx b):ac Y b t cs:=(h.same b hb.lt D fun _=>⟨cs,t,(0,0),hb⟩).trans hb
theorem Ab.belowOf {n m:Nat} {Bx:Nat→Prop} {w X Y:World} (h:Ab n Bx X Y) (hb:Below m w X) (J:m≤n) (D:∀ b,Bx b→m≤b) (I:m≤w.heap.size:=by exact Nat.le_refl _):Below m w Y:=
 hb.trans ⟨h.bel.os,h.bel.tape,h.bel.output,h.bel.size,fun k hk=>h.same k (by have:=hb.size;omega) (fun e=>by have:=D k e;omega) fun e=>by omega⟩
theorem tG (k:Nat) (w:World) (hT:ay w):CallsIn Fence.wide k Tryz.prog 20 #[.string (⟨#[97]⟩:BA)] w fun e w'=>e=.returned (.bool true)∧Below w.heap.size w w':=by
 (have o:∀ k:Nat,((Fence.wide).depth.isSome=true→1≤k):=fun k h=>by cases h);have HT:=hid hT;refine callsIn_of_wp_marks Tryz.func20 rfl trivial ?_ rfl;simp only [Tryz.ntmps20,List.size_toArray,List.length_cons,List.length_nil,Nat.reduceAdd,Nat.reduceSub,Array.replicate_succ,Array.replicate_zero,List.push_toArray,List.append_toArray,List.nil_append,List.cons_append];have gb:Below w.heap.size w ((w.alloc (.cells #[.bool false] 4)).alloc (.cells #[.func (.func 40) #[] #[]] 101)):=bel;have q:ac ((w.alloc (.cells #[.bool false] 4)).alloc (.cells #[.func (.func 40) #[] #[]] 101)) w.heap.size 4 #[.bool false]:=(ac.new w _ _).alloc _;have z:ac ((w.alloc (.cells #[.bool false] 4)).alloc (.cells #[.func (.func 40) #[] #[]] 101)) (w.heap.size+1) 101 #[.func (.func 40) #[] #[]]:=ac.new_at (by simp) _ _;(have M:((w.alloc (.cells #[.bool false] 4)).alloc (.cells #[.func (.func 40) #[] #[]] 101)).heap.size=w.heap.size+2:=by simp);have gm:0<w.heap.size:=by obtain ⟨mv,gg⟩:=hT;exact World.block_lt_of_cell? w _ gg
 gi_wp2
 refine ⟨trivial,o _,(callsIn_wide.2 (fR (⟨#[97]⟩:BA) (⟨#[47]⟩:BA) _)).mono ?_⟩;rintro e w1 ⟨rfl,I,ge,O,Q,N⟩;rw [M] at ge O Q N ⊢;have ga:=ah gb I;have gj:=q.below I (by rw [M];omega);have gk:=z.below I (by rw [M];omega);have gh:=HT.out.below ga;(have gd:fp 47 (⟨#[97]⟩:BA)=[(⟨#[97]⟩:BA)]:=by decide +kernel);have J:=lJ 47 (⟨#[97]⟩:BA) (by decide) w1 gh _ _ _ Q O N (by omega) (by omega) (fun _=>False) (by omega) ⟨nofun,nofun,nofun,nofun⟩;rw [gd] at J;clear I O Q N gb q z hT
 gi_wp2
 refine eO (encs:=fun x:ByteArray => #[.string x]) rfl lK J (fun b hb=>by have hb:b=w.heap.size+2:=hb;omega) nofun (fun _=>rfl)
  (fun _ W=>Below w.heap.size w W∧ac W w.heap.size 4 #[.bool false]∧ac W (w.heap.size+1) 101 #[.func (.func 40) #[] #[]])
  (fun x a' _=>a' = { tmps:=#[.string (⟨#[97]⟩:BA),undef,.pointer (some ⟨w.heap.size,0,none⟩),.pointer (some ⟨w.heap.size+1,0,none⟩),.string x,.string (⟨#[97]⟩:BA),.func (.func 112) #[] #[.pointer (some ⟨w.heap.size+2+1,0,none⟩),.pointer (some ⟨w.heap.size+2,0,none⟩),.pointer (some ⟨w.heap.size+2+2,0,none⟩)],.string x,undef,undef,undef,undef,undef,undef,undef],defers:=[] })
  ?keep (fun _ _ _ _ h _=>h) ⟨ga,gj,gk⟩ ?assign ?body ?done
 case keep=>rintro s A B ⟨h1,U,h3⟩ S;have j:∀ b,(b=w.heap.size+2∨(w1.heap.size+2≤b∧b<w1.heap.size+2+0))→b=w.heap.size+2:=fun b h=>h.elim id (by omega);exact ⟨S.belowOf h1 (by omega) fun b hb=>by have:=j b hb;omega,S.blk U (fun h=>by have:=j _ h;omega),S.blk h3 (fun h=>by have:=j _ h;omega)⟩
 case assign=>
  intro l pre x W K hi _ hK
  gi_wp2
  exact hK _ _ (Kx.refl _ _) hi rfl
 case body=>
  rintro l pre x r a' W j ⟨h1,U,h3⟩ rfl hl -;obtain rfl:x=(⟨#[97]⟩:BA):=by
   cases pre with
   | nil=>exact (List.cons.inj j).1
   | cons y pre=>simp at j
  have y0:=aA h3
  gi_wp2
  refine ⟨trivial,o _,(CallsIn.inRound l (callsIn_wide.2 (uT _))).mono ?_⟩;rintro e W2 ⟨rfl,hb⟩
  gi_wp2
  exact ⟨Kx.below hb,ah h1 hb,U.bl hb,h3.bl hb⟩
 case done=>
  rintro D ys W hD hys ⟨h1,U,h3⟩ hK;have y0:=aA U;have f0:=U.frozen 0
  gi_wp2
  have u:(W.setCell ⟨w.heap.size,0,none⟩ (.bool true)).heap[D]? = some (.deferred (some [])):=(Below.heap_setCell W ⟨w.heap.size,0,none⟩ _ D (by show D≠w.heap.size;omega)).trans hK;have gi:ac ((W.setCell ⟨w.heap.size,0,none⟩ (.bool true)).putObj D (.deferred none)) w.heap.size 4 #[.bool true]:=(World.putObj_heap_other (by omega)).trans (show ac (W.setCell ⟨w.heap.size,0,none⟩ (.bool true)) w.heap.size 4 #[.bool true] by simpa using U.set_ 0 (.bool true));have gl:Below w.heap.size w ((W.setCell ⟨w.heap.size,0,none⟩ (.bool true)).putObj D (.deferred none)):=(h1.setCell (p:=⟨w.heap.size,0,none⟩) (Nat.le_refl _) _).trans (belowK_b (w:=w) (Nat.le_refl _) _ D _ _ (by omega) u rfl rfl);have z0:=aA gi;refine ⟨by simp,.inl ⟨_,_,rfl,run_takeDeferred u,?_⟩⟩;refine ⟨.bool true,?_,rfl,gl⟩;simp [results,Tryz.results20,go_sem,z0]
end
section
open Go.RowKit Go.Lib Go.Proofs Go.Shelf
attribute [local go_sem ↓] Go.wp_at_zero Go.wp_at_succ
def iS (c:Nat):Bool:=c==32||(c==9||c==13)
def bE (s:ByteArray):List ByteArray:=Lib.goFieldsP iS ⟨(Lib.cut s.data.toList [47,47]).1.toArray⟩
theorem nZ (c:Nat) (w:World):Calls Tryz.prog 66 #[.int .i32 (c:Int)] w fun e w'=>e=.returned (.bool (iS c))∧w'=w:=by (have J:((c:Int)==32)=(c==32):=by rw [Bool.eq_iff_iff,beq_iff_eq,beq_iff_eq];omega);(have I:((c:Int)==9)=(c==9):=by rw [Bool.eq_iff_iff,beq_iff_eq,beq_iff_eq];omega);(have D:((c:Int)==13)=(c==13):=by rw [Bool.eq_iff_iff,beq_iff_eq,beq_iff_eq];omega);unfold iS;cases e1:(c==32) <;> cases e2:(c==9) <;> cases e3:(c==13);all_goals rw [e1] at J;rw [e2] at I;rw [e3] at D;(go_enter Tryz.func66,Tryz.ntmps66);(go_wp2_with fail);go_ret;exact ⟨rfl,rfl⟩
theorem n7 (a:Array Value) (w:World):(callFunc 66 a).run Tryz.prog w=.ok (.enter 66 a) w:=by kernel_rfl
def tH (w:World) (A:Nat) (l:List ByteArray):Prop:=A<w.heap.size∧∀ i (h:i<l.length),w.cell? ⟨A,i,none⟩=some (.string l[i])
theorem pG (s:ByteArray) (w:World) (U:s.size≤65536) (N:ay w):Calls Tryz.prog 39 #[.string s] w fun e w'=>∃ A,e=.returned (.slice (some ⟨A,0,none⟩) (bE s).length (bE s).length)∧w.heap.size≤A∧tH w' A (bE s)∧Below w.heap.size w w':=by
 have Q:=hid (fP s (⟨#[47,47]⟩:BA) w (by omega) N);have I:(⟨(Lib.cut s.data.toList [47,47]).1.toArray⟩:ByteArray).size≤4294967296:=by
  have o:(Lib.cut s.data.toList [47,47]).1.length≤s.data.toList.length:=by
   unfold Lib.cut;split
   ·simp only [List.length_take];omega
   ·exact Nat.le_refl _
  have k:s.data.toList.length=s.size:=rfl;show (Lib.cut s.data.toList [47,47]).1.toArray.size≤_;simp only [List.size_toArray];omega
 have O:=hid (fun W=>mR 66 #[] (fun a w=>n7 a w) iS ⟨(Lib.cut s.data.toList [47,47]).1.toArray⟩ W I fun W' x _ _=>(nZ x W').mono fun _ _ h=>⟨h.1,by rw [h.2];exact Below.refl _ _⟩);unfold bE;generalize (⟨(Lib.cut s.data.toList [47,47]).1.toArray⟩:ByteArray)=cs at *;clear N I;(go_enter Tryz.func39,Tryz.ntmps39);(go_wp2_with fail);refine Q.out.mono ?_;rintro e w1 ⟨rfl,J⟩;have K:=hid (O.out w1);clear Q O;(go_wp2_with fail);refine K.out.mono ?_;rintro e w2 ⟨A,rfl,j,D,M⟩;have S:=hid (show tH w2 A (Lib.goFieldsP iS cs) from ⟨(World.ownsRow.lt D A rfl).2,fun i hi=>by rw [World.ownsRow.cellAt D i (by omega),List.getElem?_map,List.getElem?_eq_getElem hi];rfl⟩);clear D K;(go_wp2_with fail);go_ret;have:=J.size;exact ⟨A,rfl,by omega,S.out,ah J M⟩
end
section
open Go.RowKit Go.Lib Go.Proofs Go.Shelf
attribute [local go_sem ↓] Go.wp_at_zero Go.wp_at_succ
attribute [local go_sem] Oper.semAt_some
def ev (s:ByteArray):List (List ByteArray):=((fp 10 s).map bE).filter fun l => !l.isEmpty
theorem lL (c:UInt8):∀ (f:Nat) (s x:ByteArray),x∈c5 c f s→x.size≤s.size
 | 0,s,x,h=>by (obtain rfl:x=s:=by simpa [c5] using h);exact Nat.le_refl _
 | f+1,s,x,h=>by
  rw [c5] at h;split at h
  ·(obtain rfl:x=s:=by simpa using h);exact Nat.le_refl _
  ·rcases List.mem_cons.1 h with rfl | h
   ·rw [ByteArray.size_extract];omega
   ·have:=lL c f _ x h;rw [ByteArray.size_extract] at this;omega
abbrev wj:=Nat × List ByteArray
def tI (x:wj):Array Value:=#[.slice (some ⟨x.1,0,none⟩) x.2.length x.2.length]
theorem n8 (a:Array Value) (w:World):(callFunc 37 a).run Tryz.prog w=.ok (.enter 37 a) w:=by kernel_rfl
theorem pH (A:Option Addr) (c:Nat) (s:ByteArray) (hs:s.size≤65536) (w:World) (hv:aL w A c s) (hT:ay w) (q:Nat) (hq:ac w q 22 #[.slice A s.size c]) (Cx:Nat→Prop) (M:∀ k,Cx k→k<w.heap.size)
  (hC:¬ Cx q∧¬ Cx 0∧∀ g,A=some g→¬ Cx g.block) :
  mb Tryz.prog 37 #[.pointer (some ⟨q,0,none⟩)] tI (·.2) (fun x W=>tH W x.1 x.2) Cx (ev s) (fun _=>False) 4 w:=by
 intro m l J W hl hl2 hA hbox hCK hJ hY h0;clear hCK;(have y:∀ k:Nat,((Fence.wide).depth.isSome=true→1≤k):=fun k h=>by cases h);have K:Below w.heap.size w W:=⟨hA.bel.os,hA.bel.tape,hA.bel.output,hA.bel.size,fun k hk=>hA.same k hk (fun h=>h) fun h=>by omega⟩;(have g4:0<w.heap.size:=by obtain ⟨mv,I⟩:=hT;exact World.block_lt_of_cell? w _ I);have hV:=hv.below K;have hQ:=hq.below K hq.lt;have gx:=hT.below K;have Q:Below W.heap.size W (W.alloc (.cells #[.func (.yield l) #[] #[]] 96)):=(Below.refl _ _).alloc (Nat.le_refl _) _;have gk:=hV.below Q;have gn:=hQ.alloc (.cells #[.func (.yield l) #[] #[]] 96);have z:=ac.new W 96 #[.func (.yield l) #[] #[]];have gu:=gk.conv;have x0:=aA gn;have y0:=aA z;have g1:=K.size;(have gi:(W.alloc (.cells #[.func (.yield l) #[] #[]] 96)).heap.size=W.heap.size+1:=by simp);have gm:=gx.below Q;have HY:=hid hY;have HJ:=hid hJ;clear hbox hY hJ hv hT hq;refine callsIn_of_wp_marks Tryz.func37 rfl trivial ?_ rfl;simp only [Tryz.ntmps37,List.size_toArray,List.length_cons,List.length_nil,Nat.reduceAdd,Nat.reduceSub,Array.replicate_succ,Array.replicate_zero,List.push_toArray,List.append_toArray,List.nil_append,List.cons_append]
 gi_wp2
 refine ⟨trivial,y _,(callsIn_wide.2 (fR s ⟨#[10]⟩ _)).mono ?_⟩;rintro e w1 ⟨rfl,O,gs,o,u,j⟩;rw [gi] at gs o u j ⊢;have gw:=z.below O (by rw [gi];omega);have gl:=gm.below O;have gh:=lJ 10 s hs w1 gl _ _ _ u o j (by omega) (by omega) (fun k=>Cx k∨k=l) (by omega) ⟨(by rintro (h | h);(have:=M _ h;omega);omega),(by rintro (h | h);(have:=M _ h;omega);omega),(by rintro (h | h);(have:=M _ h;omega);omega),(by rintro (h | h);(exact hC.2.1 h);omega)⟩;have gv:Below W.heap.size W w1:=ah Q O;have gy:=HJ.out _ _ _ h0 (Ab.below gv);clear O o u j Q gk gn z gu gm x0 y0 h0
 gi_wp2
 refine eO (encs:=fun x:ByteArray => #[.string x]) rfl lK gh (fun b hb=>by have hb:b=W.heap.size+1:=hb;omega) (by rintro b (h | h);(have:=M _ h;omega);omega) (fun _=>rfl)
  (fun pre V=>∃ ys:List wj,ys.map (·.2)=(pre.map bE).filter (fun l => !l.isEmpty)∧J ys V∧ac V W.heap.size 96 #[.func (.yield l) #[] #[]]∧ay V)
  (fun x a' _=>a' = { tmps:=#[.func (.yield l) #[] #[],.pointer (some ⟨q,0,none⟩),.pointer (some ⟨W.heap.size,0,none⟩),.string x,undef,.slice A s.size c,.string s,.func (.func 112) #[] #[.pointer (some ⟨W.heap.size+1+1,0,none⟩),.pointer (some ⟨W.heap.size+1,0,none⟩),.pointer (some ⟨W.heap.size+1+2,0,none⟩)],.string x,undef,undef,undef,undef,undef,undef,undef,undef,undef,undef,undef],defers:=[] })
  ?keep (fun _ _ _ _ h _=>h) ⟨[],rfl,gy,gw,gl⟩ ?assign ?body ?done
 case keep=>rintro s' X Y ⟨ys,h1,h2,h3,h4⟩ ga;have S:∀ b,(b=W.heap.size+1∨(w1.heap.size+2≤b∧b<w1.heap.size+2+0))→b=W.heap.size+1:=fun b h=>h.elim id (by omega);refine ⟨ys,h1,HJ.out _ _ _ h2 (ga.mono (by omega) fun b h=>by have:=S b h;exact .inr (by omega)),ga.blk h3 (fun h=>by have:=S _ h;omega),?_⟩;obtain ⟨mv,I⟩:=h4;exact ⟨mv,(World.cell?_of_block (ga.same _ (World.block_lt_of_cell? _ _ I) (fun h=>by have h2:0=W.heap.size+1:=S _ h;omega) fun h=>absurd h (by show ¬ w1.heap.size≤0;omega))).trans I⟩
 case assign=>
  intro l' pre x V G hi _ hG
  gi_wp2
  exact hG _ _ (Kx.refl _ _) hi rfl
 case body=>
  rintro l' pre x r a' V S ⟨ys,h1,h2,h3,h4⟩ rfl hl' hvz;rw [List.map_id'] at S;have gr:x.size≤65536:=Nat.le_trans (lL 10 s.size s x (by rw [show c5 10 s.size s=fp 10 s from rfl,←S];simp)) hs;have HW:=hid (pG x V gr h4);have HX:=hid (show ev s=ys.map (·.2)++(if (bE x).isEmpty then [] else [bE x])++(r.map bE).filter (fun l => !l.isEmpty) by unfold ev;rw [←S,h1,List.map_append,List.map_cons,List.filter_append,List.filter_cons,List.append_assoc];cases (bE x).isEmpty <;> rfl);have HP:=hid (show ((pre++[x]).map bE).filter (fun l => !l.isEmpty)=ys.map (·.2)++(if (bE x).isEmpty then [] else [bE x]) by rw [h1,List.map_append,List.filter_append];simp only [List.map_cons,List.map_nil,List.filter_cons,List.filter_nil];cases (bE x).isEmpty <;> rfl);have H4:=hid h4;clear S h1 h4
  gi_wp2
  refine ⟨trivial,y _,(CallsIn.inRound l' (callsIn_wide.2 HW.out)).mono ?_⟩;rintro e V2 ⟨B,rfl,hB,U,hb⟩;have gb:=h3.bl hb;have gd:=HJ.out _ _ _ h2 (Ab.below hb);have gp:=H4.out.below hb;have y0:=aA gb;clear HW;generalize bE x=ws at *;cases he:ws.isEmpty with
  | true=>
   have g3:ws.length=0:=by cases ws with
    | nil=>rfl
    | cons a b=>cases he
   (have gt:decide (0<ws.length)=false:=by rw [decide_eq_false_iff_not];omega);have g2:decide ((0:Int)<(ws.length:Int))=false:=by rw [decide_eq_false_iff_not];omega
   gi_wp2
   refine ⟨fun _ h=>(by cases h),?_⟩
   gi_wp2
   exact ⟨Kx.below hb,ys,by rw [HP.out,he];simp,gd,gb,gp⟩
  | false=>
   have gt:0<ws.length:=by cases ws with
    | nil=>cases he
    | cons a b=>simp
   obtain ⟨fn,tmps,assign,body,hy,gg⟩:=YieldAt.anyM (m':=m-1) (HY.out ys (B,ws) ((r.map bE).filter fun l => !l.isEmpty) V2 gd (by rw [HX.out,he];simp) U (by have:=hb.size;omega));unfold tI at hy;dsimp only at hy;have gq:=hid gg;have HB:=hid hb;clear gg hb U gd
   gi_wp2
   refine ⟨y _,RoundIn.mono (F:=Fence.wide.inRound l') gq.out ?_⟩;rintro e V3 ⟨rfl,gj,N⟩;have g0:=hid gj;have gz:=hid N;have h3'':=N.blk gb (by rintro (h | h);(have:=M _ h;omega);omega);have H4'':=hid (show ay V3 by obtain ⟨mv,I⟩:=gp;exact ⟨mv,(World.cell?_of_block (N.same _ (World.block_lt_of_cell? _ _ I) (by rintro (h | h);(exact hC.2.1 h);(have h:0=l:=h;omega)))).trans I⟩);clear gj N gq hy
   gi_wp2
   exact ⟨(Kx.below HB.out).trans gz.out,ys++[(B,ws)],by rw [HP.out,he];simp,g0.out,h3'',H4''.out⟩
 case done=>
  rintro D ys V hD ge ⟨zs,h1,h2,h3,h4⟩ hK;rw [List.map_id'] at ge
  gi_wp2
  refine ⟨by simp,.inl ⟨_,_,rfl,run_takeDeferred hK,?_⟩⟩;exact ⟨.tuple #[],results_none rfl _ _ _,⟨_,rfl⟩,zs,by rw [h1,ge];rfl,HJ.out _ _ _ h2 (.putObj V _ (by omega) (Array.getElem?_eq_some_iff.1 hK).1 fun c t f e=>by rw [hK] at e;cases e)⟩
theorem pI (A:Option Addr) (c:Nat) (s:ByteArray) (w:World):Calls Tryz.prog 19 #[.slice A s.size c] w fun e w'=>
  e=.returned (.func (.func 37) #[] #[.pointer (some ⟨w.heap.size,0,none⟩)])∧w'=w.alloc (.cells #[.slice A s.size c] 22):=by have D:∀ (fn:Fn) (first cap:Array Value) (w:World),(Instr.makeFunc fn first cap).run Tryz.prog w=.ok (.func fn first cap) w:=fun _ _ _ _=>rfl;(go_enter Tryz.func19,Tryz.ntmps19);(go_wp2_with fail);go_ret;exact ⟨rfl,rfl⟩
def dA:List ByteArray:=[(⟨#[109,111,100,117,108,101]⟩:BA),(⟨#[97]⟩:BA)]
def iq:List ByteArray:=[(⟨#[103,111]⟩:BA),(⟨#[49,46,50,49]⟩:BA)]
def e8:Nat→ByteArray × Int × Int
 | 0=>((⟨#[]⟩:BA),16,0)
 | 1=>((⟨#[97]⟩:BA),16,0)
 | _=>((⟨#[97]⟩:BA),21,1)
theorem n9 (k:Nat) (A:Option Addr) (c:Nat) (s:ByteArray) (hs:s.size≤65536) (w:World) (hv:aL w A c s) (hT:ay w) (ls:List (List ByteArray)) (gx:ev s=ls) (gt:ls=[dA]∨ls=[dA,iq]) :
  CallsIn Fence.wide k Tryz.prog 14 #[.slice A s.size c] w fun e w'=>e=.returned (.tuple #[.agg #[.string (⟨#[97]⟩:BA),.int .i64 (e8 ls.length).2.1],.int .i64 0])∧Below w.heap.size w w':=by
 (have ge:∀ k:Nat,((Fence.wide).depth.isSome=true→1≤k):=fun k h=>by cases h);(have hu:0<w.heap.size:=by obtain ⟨mv,M⟩:=hT;exact World.block_lt_of_cell? w _ M);(have hm:decide ((65536:Int)<(s.size:Int))=false:=by rw [decide_eq_false_iff_not];omega);refine callsIn_of_wp_marks Tryz.func14 rfl trivial ?_ rfl;simp only [Tryz.ntmps14,List.size_toArray,List.length_cons,List.length_nil,Nat.reduceAdd,Nat.reduceSub,Array.replicate_succ,Array.replicate_zero,List.push_toArray,List.append_toArray,List.nil_append,List.cons_append];have gh:Below w.heap.size w ((((w.alloc (.cells #[.string (⟨#[]⟩:BA),.int .i64 0] 56)).alloc (.cells #[.int .i64 0] 57)).alloc (.cells #[.string (⟨#[]⟩:BA),.int .i64 16] 56)).alloc (.cells #[.int .i64 0] 3)):=bel;have gm:ac ((((w.alloc (.cells #[.string (⟨#[]⟩:BA),.int .i64 0] 56)).alloc (.cells #[.int .i64 0] 57)).alloc (.cells #[.string (⟨#[]⟩:BA),.int .i64 16] 56)).alloc (.cells #[.int .i64 0] 3)) w.heap.size 56 #[.string (⟨#[]⟩:BA),.int .i64 0]:=(((ac.new w _ _).alloc _).alloc _).alloc _;have gs:ac ((((w.alloc (.cells #[.string (⟨#[]⟩:BA),.int .i64 0] 56)).alloc (.cells #[.int .i64 0] 57)).alloc (.cells #[.string (⟨#[]⟩:BA),.int .i64 16] 56)).alloc (.cells #[.int .i64 0] 3)) (w.heap.size+1) 57 #[.int .i64 0]:=((ac.new_at (by simp) _ _).alloc _).alloc _;have gp:ac ((((w.alloc (.cells #[.string (⟨#[]⟩:BA),.int .i64 0] 56)).alloc (.cells #[.int .i64 0] 57)).alloc (.cells #[.string (⟨#[]⟩:BA),.int .i64 16] 56)).alloc (.cells #[.int .i64 0] 3)) (w.heap.size+1+1) 56 #[.string (⟨#[]⟩:BA),.int .i64 16]:=(ac.new_at (by simp) _ _).alloc _;have gq:ac ((((w.alloc (.cells #[.string (⟨#[]⟩:BA),.int .i64 0] 56)).alloc (.cells #[.int .i64 0] 57)).alloc (.cells #[.string (⟨#[]⟩:BA),.int .i64 16] 56)).alloc (.cells #[.int .i64 0] 3)) (w.heap.size+1+1+1) 3 #[.int .i64 0]:=ac.new_at (by simp) _ _;have ga:((((w.alloc (.cells #[.string (⟨#[]⟩:BA),.int .i64 0] 56)).alloc (.cells #[.int .i64 0] 57)).alloc (.cells #[.string (⟨#[]⟩:BA),.int .i64 16] 56)).alloc (.cells #[.int .i64 0] 3)).heap.size=w.heap.size+4:=by simp
 gi_wp2
 refine ⟨trivial,ge _,(callsIn_wide.2 (pI A c s _)).mono ?_⟩;rintro e w1 ⟨rfl,rfl⟩;have gg:=gh.alloc gh.size (.cells #[.slice A s.size c] 22);have g0:=gm.alloc (.cells #[.slice A s.size c] 22);have he:=gs.alloc (.cells #[.slice A s.size c] 22);have g7:=gp.alloc (.cells #[.slice A s.size c] 22);have g8:=gq.alloc (.cells #[.slice A s.size c] 22);have gn:=ac.new_at ga 22 #[.slice A s.size c];(have ht:(((((w.alloc (.cells #[.string (⟨#[]⟩:BA),.int .i64 0] 56)).alloc (.cells #[.int .i64 0] 57)).alloc (.cells #[.string (⟨#[]⟩:BA),.int .i64 16] 56)).alloc (.cells #[.int .i64 0] 3)).alloc (.cells #[.slice A s.size c] 22)).heap.size=w.heap.size+5:=by simp);rw [ga];generalize ((((w.alloc (.cells #[.string (⟨#[]⟩:BA),.int .i64 0] 56)).alloc (.cells #[.int .i64 0] 57)).alloc (.cells #[.string (⟨#[]⟩:BA),.int .i64 16] 56)).alloc (.cells #[.int .i64 0] 3)).alloc (.cells #[.slice A s.size c] 22)=w1 at *;have gj:=hv.below gg;have gk:=hT.below gg;have hk:∀ g,A=some g→g.block<w.heap.size:=by
  rintro g rfl;rcases hv with ⟨h,_⟩ | ⟨g',o,h,_,N,_⟩
  ·cases h
  ·injection h with h;rw [h];exact N
 have u:=pH A c s hs w1 gj gk _ gn (fun k=>k=w.heap.size+1+1∨k=w.heap.size+1+1+1) (by rintro k (h | h) <;> omega) ⟨(by rintro (h | h) <;> omega),(by rintro (h | h) <;> (have h:0=_:=h;omega)),fun g hg h=>by have:=hk g hg;omega⟩;rw [gx] at u;clear gh gm gs gp gq ga gn gj hv hT
 gi_wp2
 refine eO (encs:=tI) (val:=(·.2)) rfl n8 u nofun (by rintro k (h | h) <;> omega) (fun _=>rfl)
  (fun pre V=>ac V w.heap.size 56 #[.string (⟨#[]⟩:BA),.int .i64 0]∧ac V (w.heap.size+1) 57 #[.int .i64 0]∧ac V (w.heap.size+1+1) 56 #[.string (e8 pre.length).1,.int .i64 (e8 pre.length).2.1] ∧
   ac V (w.heap.size+1+1+1) 3 #[.int .i64 (e8 pre.length).2.2]∧Below w.heap.size w V∧ay V)
  (fun x a' V=>a' = { tmps:=#[.slice A s.size c,undef,.pointer (some ⟨w.heap.size,0,none⟩),.pointer (some ⟨w.heap.size+1,0,none⟩),.pointer (some ⟨w.heap.size+1+1,0,none⟩),.pointer (some ⟨w.heap.size+1+1+1,0,none⟩),.slice (some ⟨x.1,0,none⟩) x.2.length x.2.length,undef,undef,.slice A s.size c,.int .i64 s.size,.bool false,undef,.agg #[.string (⟨#[]⟩:BA),.int .i64 16],.slice A s.size c,.func (.func 37) #[] #[.pointer (some ⟨w.heap.size+4,0,none⟩)],.slice (some ⟨x.1,0,none⟩) x.2.length x.2.length,undef,undef,undef,undef,undef,undef,undef,undef,undef,undef,undef,undef,undef,undef,undef,undef,undef,undef,undef,undef,undef,undef,undef,undef,undef,undef,undef,undef,undef,undef,undef,undef,undef,undef,undef,undef,undef,undef,undef,undef,undef,undef,undef,undef,undef,undef,undef,undef,undef,undef,undef,undef],defers:=[] } ∧ tH V x.1 x.2)
  ?keep ?keepx ⟨g0,he,g7,g8,gg,gk⟩ ?assign ?body ?done
 case keep=>rintro s' X Y ⟨Q,N,K,S,h5,h6⟩ J;have O:∀ b,(False∨(w1.heap.size+2≤b∧b<w1.heap.size+2+4))→w1.heap.size+2≤b:=fun b h=>h.elim nofun And.left;refine ⟨J.blk Q (fun h=>by have:=O _ h;omega),J.blk N (fun h=>by have:=O _ h;omega),J.blk K (fun h=>by have:=O _ h;omega),J.blk S (fun h=>by have:=O _ h;omega),J.belowOf h5 (by omega) (fun b h=>by have:=O _ h;omega),?_⟩;obtain ⟨mv,M⟩:=h6;exact ⟨mv,(World.cell?_of_block (J.same _ (World.block_lt_of_cell? _ _ M) (fun h=>by have N:w1.heap.size+2≤0:=O _ h;omega) fun h=>absurd h (by show ¬ w1.heap.size≤0;omega))).trans M⟩
 case keepx=>
  rintro x a' X Y ⟨Q,N,K⟩ J;exact ⟨Q,Nat.lt_of_lt_of_le N J.bel.size,fun j hj=>by
   have hc:=K j hj;obtain ⟨o,ho,gw⟩:=cells_of_cell hc;have q:∃ c t f,X.heap[x.1]? = some (.cells c t f):=by
    cases o with
    | cells c t f=>exact ⟨c,t,f,ho⟩
    | _=>cases gw
   exact (World.cell?_of_block (J.same _ N (fun h=>h) fun _=>q)).trans hc⟩
 case assign=>
  intro l' pre x V G hi gv hG;unfold tI
  gi_wp2
  exact hG _ _ (Kx.refl _ _) hi ⟨rfl,gv⟩
 case body=>
  rintro l' pre x r a' V O ⟨Q,N,K,S,h5,h6⟩ ⟨rfl,I⟩ hl' -;have hw:(pre.length=0∧x.2=dA)∨(pre.length=1∧x.2=iq):=by
   rcases gt with rfl | rfl
   ·cases pre with
    | nil=>exact .inl ⟨rfl,(List.cons.inj O).1⟩
    | cons y pre=>simp at O
   ·cases pre with
    | nil=>exact .inl ⟨rfl,(List.cons.inj O).1⟩
    | cons y pre=>cases pre with
      | nil=>exact .inr ⟨rfl,(List.cons.inj (List.cons.inj O).2).1⟩
      | cons z pre=>simp at O
  clear O;obtain ⟨b,ws⟩:=x;simp only at I hw;have HL:=hid (show (pre++[((b,ws):wj)]).length=pre.length+1 by simp);generalize hpl:pre.length=pl at *;rcases hw with ⟨rfl,rfl⟩ | ⟨rfl,rfl⟩
  ·have c0:V.cell? ⟨b,0,none⟩=some (.string (⟨#[109,111,100,117,108,101]⟩:BA)):=I.2 0 (by decide);have c1:V.cell? ⟨b,1,none⟩=some (.string (⟨#[97]⟩:BA)):=I.2 1 (by decide);have K:ac V (w.heap.size+1+1) 56 #[.string (⟨#[]⟩:BA),.int .i64 16]:=K;have S:ac V (w.heap.size+1+1+1) 3 #[.int .i64 0]:=S;have o0:V.cell? ⟨w.heap.size+1+1,0,none⟩=some (.string (⟨#[]⟩:BA)):=(K.cell 0).trans rfl;have gi:=K.frozen 0;have gd:dA.length=2:=rfl;have HP:=hid (tG (k-1) V h6);have gy:=I.1;rw [gd];clear I
   gi_wp2
   refine ⟨trivial,ge _,(CallsIn.inRound l' HP.out).mono ?_⟩;rintro e U ⟨rfl,hb⟩;have g1:=Q.bl hb;have g2:=N.bl hb;have g3:=K.bl hb;have g4:=S.bl hb;have g5:=ah h5 hb;have g6:=h6.below hb;have d1:=(hb.cell (p:=⟨b,1,none⟩) gy).trans c1;have HB:=hid hb;clear c0 c1 o0 gi hb HP;have o0:U.cell? ⟨w.heap.size+1+1,0,none⟩=some (.string (⟨#[]⟩:BA)):=(g3.cell 0).trans rfl;have gi:=g3.frozen 0
   gi_wp2
   refine ⟨(Kx.below HB.out).trans (Kx.setCell (Cx:=fun k=>k=w.heap.size+1+1∨k=w.heap.size+1+1+1) _ (.inl rfl) 0 _),?_⟩;dsimp only;rw [HL.out];refine ⟨g1.far (p:=⟨w.heap.size+1+1,0,none⟩) (by show w.heap.size≠w.heap.size+1+1;omega) _,g2.far (p:=⟨w.heap.size+1+1,0,none⟩) (by show w.heap.size+1≠w.heap.size+1+1;omega) _,?_,g4.far (p:=⟨w.heap.size+1+1,0,none⟩) (by show w.heap.size+1+1+1≠w.heap.size+1+1;omega) _,g5.setCell (p:=⟨w.heap.size+1+1,0,none⟩) (by show w.heap.size≤w.heap.size+1+1;omega) _,?_⟩
   ·show ac (U.setCell ⟨w.heap.size+1+1,0,none⟩ (.string (⟨#[97]⟩:BA))) (w.heap.size+1+1) 56 #[.string (⟨#[97]⟩:BA),.int .i64 16];simpa using g3.set_ 0 (.string (⟨#[97]⟩:BA))
   ·obtain ⟨mv,M⟩:=g6;exact ⟨mv,(World.cell?_of_block (Below.heap_setCell _ ⟨w.heap.size+1+1,0,none⟩ _ _ (by show 0≠w.heap.size+1+1;omega))).trans M⟩
  ·have c0:V.cell? ⟨b,0,none⟩=some (.string (⟨#[103,111]⟩:BA)):=I.2 0 (by decide);have c1:V.cell? ⟨b,1,none⟩=some (.string (⟨#[49,46,50,49]⟩:BA)):=I.2 1 (by decide);have K:ac V (w.heap.size+1+1) 56 #[.string (⟨#[97]⟩:BA),.int .i64 16]:=K;have S:ac V (w.heap.size+1+1+1) 3 #[.int .i64 0]:=S;have n0:=aA S;have nf:=S.frozen 0;have gd:iq.length=2:=rfl;have HP:=hid (py V h6);rw [gd];clear I
   gi_wp2
   refine ⟨trivial,ge _,(CallsIn.inRound l' (callsIn_wide.2 HP.out)).mono ?_⟩;rintro e U ⟨rfl,hb⟩;have g1:=Q.bl hb;have g2:=N.bl hb;have g3:=K.bl hb;have g4:=S.bl hb;have g5:=ah h5 hb;have g6:=h6.below hb;have HB:=hid hb;clear c0 c1 n0 nf hb HP;have n0:=aA g4;have nf:=g4.frozen 0;(have j4:ac (U.setCell ⟨w.heap.size+1+1+1,0,none⟩ (.int .i64 1)) (w.heap.size+1+1+1) 3 #[.int .i64 1]:=by simpa using g4.set_ 0 (.int .i64 1));have j3:=g3.far (p:=⟨w.heap.size+1+1+1,0,none⟩) (by show w.heap.size+1+1≠w.heap.size+1+1+1;omega) (.int .i64 1);have m0:=aA j4;have o1:(U.setCell ⟨w.heap.size+1+1+1,0,none⟩ (.int .i64 1)).cell? ⟨w.heap.size+1+1,1,none⟩=some (.int .i64 16):=(j3.cell 1).trans rfl;have hr:=j3.frozen 1
   gi_wp2
   refine ⟨((Kx.below HB.out).trans (Kx.setCell (Cx:=fun k=>k=w.heap.size+1+1∨k=w.heap.size+1+1+1) _ (.inr rfl) 0 _)).trans (Kx.setCell (Cx:=fun k=>k=w.heap.size+1+1∨k=w.heap.size+1+1+1) _ (.inl rfl) 1 _),?_⟩;dsimp only;rw [HL.out];have q1:=(g1.far (p:=⟨w.heap.size+1+1+1,0,none⟩) (by show w.heap.size≠w.heap.size+1+1+1;omega) (.int .i64 1)).far (p:=⟨w.heap.size+1+1,1,none⟩) (by show w.heap.size≠w.heap.size+1+1;omega) (.int .i64 21);have q2:=(g2.far (p:=⟨w.heap.size+1+1+1,0,none⟩) (by show w.heap.size+1≠w.heap.size+1+1+1;omega) (.int .i64 1)).far (p:=⟨w.heap.size+1+1,1,none⟩) (by show w.heap.size+1≠w.heap.size+1+1;omega) (.int .i64 21);have q3:=j3.set_ 1 (.int .i64 21);have q4:=j4.far (p:=⟨w.heap.size+1+1,1,none⟩) (by show w.heap.size+1+1+1≠w.heap.size+1+1;omega) (.int .i64 21);have q5:=(g5.setCell (p:=⟨w.heap.size+1+1+1,0,none⟩) (by show w.heap.size≤w.heap.size+1+1+1;omega) (.int .i64 1)).setCell (p:=⟨w.heap.size+1+1,1,none⟩) (by show w.heap.size≤w.heap.size+1+1;omega) (.int .i64 21);refine ⟨q1,q2,?_,q4,q5,?_⟩
   ·show ac _ (w.heap.size+1+1) 56 #[.string (⟨#[97]⟩:BA),.int .i64 21];simpa using q3
   ·obtain ⟨mv,M⟩:=g6;exact ⟨mv,(World.cell?_of_block ((Below.heap_setCell _ ⟨w.heap.size+1+1,1,none⟩ _ _ (by show 0≠w.heap.size+1+1;omega)).trans (Below.heap_setCell _ ⟨w.heap.size+1+1+1,0,none⟩ _ _ (by show 0≠w.heap.size+1+1+1;omega)))).trans M⟩
 case done=>
  rintro D ys V hD hys ⟨Q,N,K,S,h5,h6⟩ hK;(have gu:ys.length=ls.length:=by rw [←hys,List.length_map]);rw [gu] at K;(have hp:(e8 ls.length).1=(⟨#[97]⟩:BA):=by rcases gt with rfl | rfl <;> rfl);rw [hp] at K;obtain ⟨mi,gb⟩:∃ mi,mi=(e8 ls.length).2.1:=⟨_,rfl⟩;rw [←gb] at K;have hl:=hid gb;clear gb;have o0:V.cell? ⟨w.heap.size+1+1,0,none⟩=some (.string (⟨#[97]⟩:BA)):=(K.cell 0).trans rfl;have o1:V.cell? ⟨w.heap.size+1+1,1,none⟩=some (.int .i64 mi):=(K.cell 1).trans rfl;have r0:V.cell? ⟨w.heap.size,0,none⟩=some (.string (⟨#[]⟩:BA)):=(Q.cell 0).trans rfl;have r1:V.cell? ⟨w.heap.size,1,none⟩=some (.int .i64 0):=(Q.cell 1).trans rfl;have hq:=Q.frozen 0;have hn:=Q.frozen 1;have e0:=aA N;have ef:=N.frozen 0
  gi_wp2
  have gz:ac (((V.setCell ⟨w.heap.size,0,none⟩ (.string (⟨#[97]⟩:BA))).setCell ⟨w.heap.size,1,none⟩ (.int .i64 mi)).setCell ⟨w.heap.size+1,0,none⟩ (.int .i64 0)) w.heap.size 56 #[.string (⟨#[97]⟩:BA),.int .i64 mi]:=(show ac ((V.setCell ⟨w.heap.size,0,none⟩ (.string (⟨#[97]⟩:BA))).setCell ⟨w.heap.size,1,none⟩ (.int .i64 mi)) w.heap.size 56 #[.string (⟨#[97]⟩:BA),.int .i64 mi] by simpa using (Q.set_ 0 (.string (⟨#[97]⟩:BA))).set_ 1 (.int .i64 mi)).far (p:=⟨w.heap.size+1,0,none⟩) (by show w.heap.size≠w.heap.size+1;omega) _;(have ha:ac (((V.setCell ⟨w.heap.size,0,none⟩ (.string (⟨#[97]⟩:BA))).setCell ⟨w.heap.size,1,none⟩ (.int .i64 mi)).setCell ⟨w.heap.size+1,0,none⟩ (.int .i64 0)) (w.heap.size+1) 57 #[.int .i64 0]:=by simpa using ((N.far (p:=⟨w.heap.size,0,none⟩) (by show w.heap.size+1≠w.heap.size;omega) (.string (⟨#[97]⟩:BA))).far (p:=⟨w.heap.size,1,none⟩) (by show w.heap.size+1≠w.heap.size;omega) (.int .i64 mi)).set_ 0 (.int .i64 0));have hh:=((h5.setCell (p:=⟨w.heap.size,0,none⟩) (Nat.le_refl _) (.string (⟨#[97]⟩:BA))).setCell (p:=⟨w.heap.size,1,none⟩) (Nat.le_refl _) (.int .i64 mi)).setCell (p:=⟨w.heap.size+1,0,none⟩) (Nat.le_succ _) (.int .i64 0);have gr:(((V.setCell ⟨w.heap.size,0,none⟩ (.string (⟨#[97]⟩:BA))).setCell ⟨w.heap.size,1,none⟩ (.int .i64 mi)).setCell ⟨w.heap.size+1,0,none⟩ (.int .i64 0)).heap[D]? = some (.deferred (some [])):=
   (Below.heap_setCell _ ⟨w.heap.size+1,0,none⟩ _ D (by show D≠w.heap.size+1;omega)).trans ((Below.heap_setCell _ ⟨w.heap.size,1,none⟩ _ D (by show D≠w.heap.size;omega)).trans ((Below.heap_setCell _ ⟨w.heap.size,0,none⟩ _ D (by show D≠w.heap.size;omega)).trans hK))
  generalize ((V.setCell ⟨w.heap.size,0,none⟩ (.string (⟨#[97]⟩:BA))).setCell ⟨w.heap.size,1,none⟩ (.int .i64 mi)).setCell ⟨w.heap.size+1,0,none⟩ (.int .i64 0)=U at *;have gl:ac (U.putObj D (.deferred none)) w.heap.size 56 #[.string (⟨#[97]⟩:BA),.int .i64 mi]:=(World.putObj_heap_other (by omega)).trans gz;have g9:ac (U.putObj D (.deferred none)) (w.heap.size+1) 57 #[.int .i64 0]:=(World.putObj_heap_other (by omega)).trans ha;have hf:=hh.trans (belowK_b (w:=w) (Nat.le_refl _) U D _ (.deferred none) (by omega) gr rfl rfl);have z0:(U.putObj D (.deferred none)).cell? ⟨w.heap.size,0,none⟩=some (.string (⟨#[97]⟩:BA)):=(gl.cell 0).trans rfl;have z1:(U.putObj D (.deferred none)).cell? ⟨w.heap.size,1,none⟩=some (.int .i64 mi):=(gl.cell 1).trans rfl;have z2:=aA g9;refine ⟨by simp,.inl ⟨_,_,rfl,run_takeDeferred gr,?_⟩⟩;refine ⟨.tuple #[.agg #[.string (⟨#[97]⟩:BA),.int .i64 mi],.int .i64 0],?_,by rw [hl.out],hf⟩;simp [results,Tryz.results14,go_sem,z0,z1,z2]
end
end Go.Proofs.YtmmjgmcfdnkomaaGreatDoor
