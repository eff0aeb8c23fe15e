/-
  Parts of the proof: Sscan Scan2 Ldig. By an AI agent.
-/
import Derived.Test.YteialcjaiocjdaaGreatDoorJ18
import Derived.Test.YteialcjaiocjdaaGreatDoorJ02
import Derived.Test.YteialcjaiocjdaaGreatDoorJ01
import Derived.BigQuiet
import Derived.Defers
import Derived.Recover
import Derived.Deep.RegionLaw
open Go.Proofs.Tryz
set_option maxRecDepth 100000
set_option maxHeartbeats 8000000
namespace Go.Proofs.YteialcjaiocjdaaGreatDoor
section
open Go.RowKit Go.Lib Go.Proofs
attribute [local go_sem ↓] Go.wp_at_zero Go.wp_at_succ
theorem gL:type_of% @List.append_assoc:=@List.append_assoc
theorem kE:type_of% @List.append_nil:=@List.append_nil
theorem vu:type_of% @Go.leaves_cons:=@Go.leaves_cons
theorem GJ(p q r:Addr)(w:World):
  CallsD prog 84 #[.pointer (some p),.pointer (some q),.pointer (some r)] .returning w fun e u' w'=>e=.returned (.tuple #[])/\u'=.returning/\w'=w:=by
 refine callsD_of_wpS func84 rfl fun c₀ cs D=>?_;apply wpS_seq;apply wpS_region;simp[wpOpsS,go_sem,recoverD,D,ntmps84,Exit.thenS];apply wpS_seq;apply wpS_region;simp[wpOpsS,go_sem,Exit.thenS];refine wpS_cond (t:=false) (by simp[Act.eval,Array.replicate]) ?_;simp only[gW,jW];refine wpS_of_wp (wp_skip ?_);cases c₀
 simp_all[bodyPostS,results,results84]
def RV(Q:Exit->Act->World->Prop):Exit->Act->World->Prop:=fun x a w=>match x with
 | .normal=>Q .normal a w
 |_=>False
theorem Lz{P:Program}{c:Code}{Q:Exit->Act->World->Prop}{a:Act}{w:World}(h:c.wp P (RV Q) a w):c.wp P Q a w:=
 Code.wp_mono (fun e a w h=>by
  cases e with
  |normal=>exact h
  |_=>exact h.elim) h
def uJ(s0:ByteArray)(w:World)(r:Co)(e:Ending)(w':World):Prop:=
 match r with
 | .toks L=>∃X i,e=.returned (.tuple #[.pointer (some ⟨X,0,none⟩),.int .i64 0,.int .i64 0])/\mc w' X s0 i L/\w.heap.size<=X/\Below w w w'
 | .err p n=>e=.returned (.tuple #[.pointer none,.int .i64 p,.int .i64 n])/\Below w w w'
 | .out=>False
theorem LA(A:Option Addr)(c:Nat)(s:ByteArray)(w:World)(hv:eK w A c s)(hT:iY w)(h7:s.size<=10000000000000000)(gt:ll s≠.out):
  Calls prog 65 #[.slice A s.size c] w (uJ s w (ll s)):=by
 have ja:∀(fn:Fn)(first cap:Array Value)(w:World),(Instr.makeFunc fn first cap).run prog w=.ok (.func fn first cap) w:=fun _ _ _ _=>rfl;have g4:Below w w (((w.alloc (.cells #[.pointer none] 72)).alloc (.cells #[.int .i64 0] 3)).alloc (.cells #[.int .i64 0] 29)):=bel;have gq:aq (((w.alloc (.cells #[.pointer none] 72)).alloc (.cells #[.int .i64 0] 3)).alloc (.cells #[.int .i64 0] 29)) w.heap.size 72 #[.pointer none]:=((aq.new w _ _).alloc _).alloc _;have gn:aq (((w.alloc (.cells #[.pointer none] 72)).alloc (.cells #[.int .i64 0] 3)).alloc (.cells #[.int .i64 0] 29)) (w.heap.size+1) 3 #[.int .i64 0]:=(aq.new_at (by simp) _ _).alloc _;have gm:aq (((w.alloc (.cells #[.pointer none] 72)).alloc (.cells #[.int .i64 0] 3)).alloc (.cells #[.int .i64 0] 29)) (w.heap.size+2) 29 #[.int .i64 0]:=aq.new_at (by simp) _ _;cases hO:ll s with
 |out=>exact absurd hO gt
 |err p n=>obtain⟨gu,rfl,rfl⟩:=sT hO;(have g8:decide ((65536:Int)<(s.size:Int))=true:=by rw[gR];omega);have x0:=ce gq;have y0:=ce gn;have z0:=ce gm;have xf:=gq.frozen 0;have yf:=gn.frozen 0;have zf:=gm.frozen 0;clear gu hO gt hv hT;(go_enter_defers func65,ntmps65);go_wp2_with fail;clear x0 y0 z0 xf yf zf;simp[bodyPostD,Leaves,results,results65,go_sem,uJ];exact bel
 |toks L=>
 obtain⟨g7,hp,hO⟩:=Cp hO;have HW:=hid (fun w'(J:Below w w w')=>(hv.below J).wrong (hT.below J) (by omega) hp);have hc:=hid (fun w'(J:Below w w w')=>(hv.below J).conv);have HT:=hid hT;have HS:=hid hO;have HP:=hid hp;(have g8:decide ((65536:Int)<(s.size:Int))=false:=by rw[gK];omega);clear hT hv hO hp gt;(go_enter_defers func65,ntmps65);go_wp2_with fail;refine(HW.out _ g4).mono ?_;rintro e w1⟨rfl,gb⟩;(have gj:(((w.alloc (.cells #[.pointer none] 72)).alloc (.cells #[.int .i64 0] 3)).alloc (.cells #[.int .i64 0] 29)).heap.size=w.heap.size+3:=by simp);have gp:=gq.below gb (by rw[gj];omega);have ha:=gn.below gb (by rw[gj];omega);have g9:=gm.below gb (by rw[gj];omega);have he:=gb.size;rw[gj]at he;have g3:=au g4 gb;clear gq gn gm gb g4 gj;have hh:=hc.out _ g3;have x0:=ce (gp.alloc (.cells #[s,.int .i64 0,.slice none 0 0,.slice none 0 0] 76));have xf:=(gp.alloc (.cells #[s,.int .i64 0,.slice none 0 0,.slice none 0 0] 76)).frozen 0;go_wp2_with fail;(have M:aq ((w1.alloc (.cells #[s,.int .i64 0,.slice none 0 0,.slice none 0 0] 76)).setCell ⟨w,0,none⟩ (.pointer (some ⟨w1,0,none⟩))) w.heap.size 72 #[w1]:=by simpa using(gp.alloc _).set_ 0 _);have U:aq ((w1.alloc (.cells #[s,.int .i64 0,.slice none 0 0,.slice none 0 0] 76)).setCell ⟨w,0,none⟩ (.pointer (some ⟨w1,0,none⟩))) (w.heap.size+1) 3 #[.int .i64 0]:=(ha.alloc _).far (p:=⟨w,0,none⟩) (by show w.heap.size+1≠w.heap.size;omega) _;have O:aq ((w1.alloc (.cells #[s,.int .i64 0,.slice none 0 0,.slice none 0 0] 76)).setCell ⟨w,0,none⟩ (.pointer (some ⟨w1,0,none⟩))) (w.heap.size+2) 29 #[.int .i64 0]:=(g9.alloc _).far (p:=⟨w,0,none⟩) (by show w.heap.size+2≠w.heap.size;omega) _;have ga:Below w w ((w1.alloc (.cells #[s,.int .i64 0,.slice none 0 0,.slice none 0 0] 76)).setCell ⟨w,0,none⟩ (.pointer (some ⟨w1,0,none⟩))):=(g3.alloc (by omega) _).setCell (gC _) _;have gi:mc ((w1.alloc (.cells #[s,.int .i64 0,.slice none 0 0,.slice none 0 0] 76)).setCell ⟨w,0,none⟩ (.pointer (some ⟨w1,0,none⟩))) w1.heap.size s 0 []:=
  ⟨⟨.slice none 0 0,(aq.new w1 _ _).far (p:=⟨w,0,none⟩) (by show w1.heap.size≠w.heap.size;omega) _,mw.nil _ _⟩,gQ _,g7,by simp⟩
 generalize(w1.alloc (.cells #[s,.int .i64 0,.slice none 0 0,.slice none 0 0] 76)).setCell ⟨w,0,none⟩ (.pointer (some ⟨w1,0,none⟩))=w2 at *;generalize w1.heap.size=X at *;clear gp ha g9 g3 x0 xf hh hc HW;go_loopg [28] s.size (fun gg _ wr=>∃(i f:Nat)(l:List ef),mc wr X s i l/\aq wr w.heap.size 72 #[X]/\aq wr (w.heap.size+1) 3 #[.int .i64 0]/\aq wr (w.heap.size+2) 29 #[.int .i64 0]/\Below w w wr /\
  fO s f i l=some L/\my i l/\s.size-i+1<=f/\s.size-i<=gg)
 case atStart=>exact⟨0,s.size+1,[],gi,M,U,O,ga,HS.out,⟨gC _,fun t h=>by cases h⟩,by omega,by omega⟩
 case round=>
  clear gi M U O ga;obtain⟨i,f,l,gl,M,U,O,ga,N,D,hf,je⟩:=hrel;have jb:=gl.le;obtain⟨lv,g2⟩:=gl.out;obtain⟨x0,x1,x2,x3,-,-,-,-⟩:=ab g2.blk;have y0:=ce M;obtain⟨f1,rfl⟩:∃f1,f=f1+1:=⟨f-1,by omega⟩;unfold fO at N;by_cases hi:i<s.size
  ·rw[gG hi]at N;(have hg:(i:Int)<(s.size:Int):=by omega);have g5:=hid N;have gr:=hid (Cq s i l g7 hi D);clear N g2;cases gd:fN s i l with
   |out=>exact absurd g5.out (by rw[gd];exact fun h=>by cases h)
   |go j l'=>
    obtain⟨jd,jc,ge⟩:=gr.out j l' gd;have HF:Hid (fO s f1 j l'=some L):=hid (by rw[<-g5.out,gd]);have h4:=hid (fun w'(J:Below wr wr w')(gw:Below w w w')=>DZ X s i l w' (gl.below J) (HT.out.below gw).tab hi HP.out D j l' gd);have h6:=hid ge;clear gd g5 gr ge D;go_wp2_with fail;go_quiet (fail);have gv:=bK (gH wr.heap.size wr) nq;have yk:=bK ga nq;have gh:=M.drewN nq;have g0:=U.drewN nq;have gy:=O.drewN nq;have y3:=ce gh;generalize wr.drewN nq=w3 at *;clear x0 x1 x2 x3 y0 M U O ga;go_wp2_with fail;refine(h4.out _ gv yk).mono ?_;rintro e w4⟨rfl,gs,I⟩;go_wp2_with fail;go_roundg (s.size-j)
    case measure=>omega
    case rel=>exact⟨j,f1,l',gs,gh.below I (by omega),g0.below I (by omega),gy.below I (by omega),yk.trans (I.mono (by omega)),HF.out,h6.out,by omega,gC _⟩
  ·rw[gB hi]at N;have HF:Hid (lk l (s.size:Int)=L):=hid (Option.some.inj N);(have hl:l.length+1<=65537:=by have:=D.1;omega);(have hg:¬ (i:Int)<(s.size:Int):=by omega);have g6:=D.2;have h5:=hid (fun w'(J:Below wr wr w')(gw:Below w w w')=>Ch X s i l (s.size:Int) hl w' (gl.below J) (HT.out.below gw).tab g6);clear N g2 g6 D;go_wp2_with fail;go_quiet (fail);have gv:=bK (gH wr.heap.size wr) nq;have yk:=bK ga nq;have gh:=M.drewN nq;have g0:=U.drewN nq;have gy:=O.drewN nq;have y3:=ce gh;have h8:(wr.drewN nq).cell? ⟨X,0,none⟩=some (.string s):=x0;generalize wr.drewN nq=w3 at *;clear x0 x1 x2 x3 y0 M U O ga;go_wp2_with fail;refine Lz ?_;go_region_law (first
    |(go_simp;go_at_call 86;refine(h5.out _ gv.drew yk.drew).mono ?_;rintro e w4⟨rfl,gs,I⟩;have g1:=gh.drew.below I (by omega);have y4:=ce g1))
   all_goals unfold RV;have gz:=g0.drew.below I (by omega);have gx:=gy.drew.below I (by omega);have h3:=yk.drew.trans (I.mono (by omega));have yf:=g1.frozen 0;have u4:=ce gz;have uf:=gz.frozen 0;have v4:=ce gx;have vf:=gx.frozen 0;go_wp2_with fail;(have hu:aq (w4.setCell ⟨w,0,none⟩ (.pointer (some ⟨X,0,none⟩))) w.heap.size 72 #[X]:=by simpa using g1.set_ 0 (.pointer (some ⟨X,0,none⟩)));have hq:=gz.far (p:=⟨w,0,none⟩) (by show w.heap.size+1≠w.heap.size;omega) (.pointer (some ⟨X,0,none⟩));have hm:=gx.far (p:=⟨w,0,none⟩) (by show w.heap.size+2≠w.heap.size;omega) (.pointer (some ⟨X,0,none⟩));have hz:∀b,X<=b->(w4.setCell ⟨w,0,none⟩ (.pointer (some ⟨X,0,none⟩))).heap[b]? = w4.heap[b]? :=fun b hb=>jU w4 ⟨w,0,none⟩ _ b (by show b≠w.heap.size;omega);have h2:=h3.setCell (p:=⟨w,0,none⟩) (gC _) (.pointer (some ⟨X,0,none⟩));generalize w4.setCell ⟨w,0,none⟩ (.pointer (some ⟨X,0,none⟩))=w5 at *;(have ho:aq (w5.setCell ⟨w.heap.size+1,0,none⟩ (.int .i64 0)) (w.heap.size+1) 3 #[.int .i64 0]:=by simpa using hq.set_ 0 (.int .i64 0));have ht:=hu.far (p:=⟨w.heap.size+1,0,none⟩) (by show w.heap.size≠w.heap.size+1;omega) (.int .i64 0);have hk:=hm.far (p:=⟨w.heap.size+1,0,none⟩) (by show w.heap.size+2≠w.heap.size+1;omega) (.int .i64 0);have hy:∀b,X<=b->(w5.setCell ⟨w.heap.size+1,0,none⟩ (.int .i64 0)).heap[b]? = w4.heap[b]? :=fun b hb=>(jU w5 ⟨w.heap.size+1,0,none⟩ _ b (by show b≠w.heap.size+1;omega)).trans (hz b hb);have h1:=h2.setCell (p:=⟨w.heap.size+1,0,none⟩) (jN _) (.int .i64 0);generalize w5.setCell ⟨w.heap.size+1,0,none⟩ (.int .i64 0)=w6 at *;(have hj:aq (w6.setCell ⟨w.heap.size+1+1,0,none⟩ (.int .i64 0)) (w.heap.size+2) 29 #[.int .i64 0]:=by simpa using hk.set_ 0 (.int .i64 0));have hr:=ht.far (p:=⟨w.heap.size+1+1,0,none⟩) (by show w.heap.size≠w.heap.size+1+1;omega) (.int .i64 0);have hn:=ho.far (p:=⟨w.heap.size+1+1,0,none⟩) (by show w.heap.size+1≠w.heap.size+1+1;omega) (.int .i64 0);have hw:∀b,X<=b->(w6.setCell ⟨w.heap.size+1+1,0,none⟩ (.int .i64 0)).heap[b]? = w4.heap[b]? :=fun b hb=>(jU w6 ⟨w.heap.size+1+1,0,none⟩ _ b (by show b≠w.heap.size+1+1;omega)).trans (hy b hb);have h0:=h1.setCell (p:=⟨w.heap.size+1+1,0,none⟩) (show w.heap.size<=w.heap.size+1+1 by omega) (.int .i64 0);generalize w6.setCell ⟨w.heap.size+1+1,0,none⟩ (.int .i64 0)=w7 at *;have gi:=gs.keep fun b hb _=>hw b hb;rw[HF.out]at gi;refine vu (f:=84) (args:=#[w,.pointer (some ⟨w.heap.size+1,0,none⟩),.pointer (some ⟨w.heap.size+1+1,0,none⟩)]) (by simp) (by simp[go_sem]) ?_;refine(GJ _ _ _ _).mono ?_;rintro e u' w8⟨rfl,rfl,rfl⟩;have z0:=ce hr;have z1:=ce hn;have z2:w8.cell? ⟨w.heap.size+1+1,0,none⟩=some (.int .i64 0):=ce hj;clear y4 u4 v4 yf uf vf;simp[Leaves,settle,results,results65,go_sem,z0,z1,z2,uJ];exact⟨⟨i,gi⟩,by omega,h0⟩
theorem mw.reads{B:Nat}{w:World}{v:Value}{l:List ef}(h:mw B w v l):∃A c,v=.slice A l.length c/\l.length<=c/\co w w.heap.size 3 A l.length (l.flatMap nB):=by
 obtain⟨A,c,I,J⟩:=h.form;refine⟨A,c,I,J,?_⟩;by_cases U:l.length=0
 ·exact⟨by rw[oW fL],fun N=>by omega⟩
 ·obtain⟨g,c',D,O,M⟩:=qM h (by omega);rw[I]at D;injection D with e1 e2 e3;subst e1 e3;exact co.of_own (I▸h:w.ownsRow B _ 3 (.slice (some ⟨g,0,none⟩) l.length c) l.length (l.flatMap nB))
theorem GK{w:World}{A:Option Addr}{B n R:Nat}{xs:List Value}(h:co w B 3 A n xs)(O:B<=R):fh (· < R) w 3 A n xs:=by
 refine⟨h.1,fun M=>?_⟩;obtain⟨ad,U,hb,J⟩:=h.2 M;(have N:0<xs.length:=by rw[h.1];omega);have h0:=J 0 xs[0] (gT N);have D:=nY (show w.cell? ad=some xs[0]from h0);obtain⟨b,o,s⟩:=ad;(have I:s=none:=by simpa using D);subst I;refine⟨b,o,U,kK hb O,fun j u hu=>?_⟩;have:=J j u hu
 rwa [oX]at this
def Pd(w:World)(r:Co)(e:Ending)(w':World):Prop:=
 match r with
 | .toks L=>∃A cp,e=.returned (.tuple #[.slice A L.length cp,.int .i64 0,.int .i64 0])/\L.length<=cp/\L.length<=65537/\co w' w'.heap.size 3 A L.length (L.flatMap nB)/\Below w w w'
 | .err p n=>e=.returned (.tuple #[.slice none 0 0,.int .i64 p,.int .i64 n])/\Below w w w'
 | .out=>False
theorem Cr(A:Option Addr)(c:Nat)(s:ByteArray)(w:World)(hv:eK w A c s)(hT:iY w)(O:s.size<=10000000000000000)(D:ll s≠.out):
  Calls prog 48 #[.slice A s.size c] w (Pd w (ll s)):=by
 have U:=hid (LA A c s w hv hT O D);clear hv hT;cases M:ll s with
 |out=>exact absurd M D
 |toks L=>rw[M]at U;clear M D;(go_enter func48,ntmps48);go_wp2_with fail;refine U.out.mono ?_;rintro e w1⟨X,i,rfl,I,hX,hB⟩;obtain⟨lv,J⟩:=I.out;obtain⟨x0,x1,x2,x3,-,-,-,-⟩:=ab J.blk;obtain⟨A',cp,rfl,h,hr⟩:=J.toks.reads;have N:=I.few;clear I J U;go_wp2_with fail;go_ret3;exact⟨A',cp,rfl,h,N,hr,hB⟩
 |err p n=>obtain⟨-,rfl,rfl⟩:=sT M;rw[M]at U;clear M D;(go_enter func48,ntmps48);go_wp2_with fail;refine U.out.mono ?_;rintro e w1⟨rfl,hB⟩;go_wp2_with fail;go_ret3;exact⟨rfl,hB⟩
theorem tK(s:ByteArray)(M:s.size<=65536):∀(f i:Nat)(l:List ef)(L:List ef),fO s f i l=some L->my i l->i<=s.size->my (s.size+1) L
 |0,_,_,_,h,_,_=>by cases h
 | f+1,i,l,L,h,D,U=>by
  rw[fO]at h;by_cases J:i<s.size
  ·rw[gG J]at h;cases I:fN s i l with
   |go j l'=>rw[I]at h;obtain⟨_,O,N⟩:=Cq s i l M J D j l' I;exact tK s M f j l' L h N O
   |out=>rw[I]at h;cases h
  ·rw[gB J]at h;injection h with h;subst h;exact D.line (by omega) _
theorem uK{s:ByteArray}{L:List ef}(h:ll s=.toks L):s.size<=65536/\L.length<=65537/\∀t∈L,t.text.size<=65536:=by obtain⟨D,_,I⟩:=Cp h;have:=tK s D _ _ _ _ I ⟨gC _,fun t h=>by cases h⟩ (gQ _);exact⟨D,by have:=this.1;omega,this.2⟩
def o8(c:Nat):Int:=match ij c with|some d=>(d:Int)|none =>-1
theorem nH(c:Nat)(hc:c<2000000)(w:World):Calls prog 89 #[.int .i32 (c:Int)] w fun e w'=>e=.returned (.int .i64 (o8 c))/\w=w':=by
 by_cases J:48<=c/\c<=57
 ·have I:Hid (o8 c=(c:Int)-48):=hid (by unfold o8 ij;rw[gG J];simp only;omega);(have O:decide ((48:Int)<=(c:Int))=true:=by rw[gR];omega);(have N:decide ((c:Int)<=(57:Int))=true:=by rw[gR];omega);have q1:IntKind.i32.wrap ((c:Int)-48)=(c:Int)-48:=vi _ (by omega);have q2:IntKind.i64.wrap ((c:Int)-48)=(c:Int)-48:=jC _ (by omega);(go_enter func89,ntmps89);go_wp2_with fail;go_ret;exact⟨(by rw[I.out];first|done|rfl),rfl⟩
 (have D:(decide ((48:Int)<=(c:Int))&&decide ((c:Int)<=(57:Int)))=false:=by rw[Bool.and_eq_false_iff,gK,gK];omega);by_cases M:97<=c/\c<=102
 ·have I:Hid (o8 c=(c:Int)-97+10):=hid (by unfold o8 ij;rw[gB J,gG M];simp only;omega);(have e0:decide ((48:Int)<=(c:Int))=true:=by rw[gR];omega);(have h:decide ((c:Int)<=(57:Int))=false:=by rw[gK];omega);(have O:decide ((97:Int)<=(c:Int))=true:=by rw[gR];omega);(have N:decide ((c:Int)<=(102:Int))=true:=by rw[gR];omega);have q1:IntKind.i32.wrap ((c:Int)-97)=(c:Int)-97:=vi _ (by omega);have q2:IntKind.i64.wrap ((c:Int)-97)=(c:Int)-97:=jC _ (by omega);have q3:IntKind.i64.wrap ((c:Int)-97+10)=(c:Int)-97+10:=jC _ (by omega);clear D;(go_enter func89,ntmps89);go_wp2_with fail;go_ret;exact⟨(by rw[I.out];first|done|rfl),rfl⟩
 by_cases U:65<=c/\c<=70
 ·have I:Hid (o8 c=(c:Int)-65+10):=hid (by unfold o8 ij;rw[gB J,gB M,gG U];simp only;omega);(have e0:decide ((48:Int)<=(c:Int))=true:=by rw[gR];omega);(have h:decide ((c:Int)<=(57:Int))=false:=by rw[gK];omega);(have O:decide ((97:Int)<=(c:Int))=false:=by rw[gK];omega);(have N:decide ((65:Int)<=(c:Int))=true:=by rw[gR];omega);(have e3:decide ((c:Int)<=(70:Int))=true:=by rw[gR];omega);have q1:IntKind.i32.wrap ((c:Int)-65)=(c:Int)-65:=vi _ (by omega);have q2:IntKind.i64.wrap ((c:Int)-65)=(c:Int)-65:=jC _ (by omega);have q3:IntKind.i64.wrap ((c:Int)-65+10)=(c:Int)-65+10:=jC _ (by omega);clear D;(go_enter func89,ntmps89);go_wp2_with fail;go_ret;exact⟨(by rw[I.out];first|done|rfl),rfl⟩
 ·have I:Hid (o8 c = -1):=hid (by unfold o8 ij;rw[gB J,gB M,gB U]);clear D;cases O:decide ((48:Int)<=(c:Int))<;>cases N:decide ((c:Int)<=(57:Int))<;>cases e3:decide ((97:Int)<=(c:Int))<;>cases e4:decide ((c:Int)<=(102:Int))<;>cases e5:decide ((65:Int)<=(c:Int))<;>cases e6:decide ((c:Int)<=(70:Int));all_goals
   first
    |(exfalso;simp only[gR,gK]at O N e3 e4 e5 e6;omega)
    |(clear J M U;(go_enter func89,ntmps89);go_wp2_with fail;go_ret;exact⟨(by rw[I.out];first|done|rfl),rfl⟩)
def pZ(B:Nat)(w:World)(v:Value)(l:List Nat):Prop:=w.ownsRow B 3 1 v l.length (l.map fun(d:Nat)=>Value.int .i64 (d:Int))
def D0(B:Nat)(w:World)(v:Value)(l:List UInt8):Prop:=w.ownsRow B 5 1 v l.length (l.map fun c=>Value.int .u8 (c.toNat:Int))
theorem Cs{B:Nat}{w w':World}{e:TypeId}{n:Nat}{v:Value}{xs:List Value}(h:w.ownsRow B e 1 v n xs)(M:∀b,B<=b->b<w.heap.size->w'.heap[b]? = w.heap[b]?):w'.ownsRow B e 1 v n xs:=by
 refine⟨h.1,?_⟩;rcases h.2 with N|⟨g,cap,cur,e,J,I,r⟩
 ·exact .inl N
 ·refine .inr ⟨g,cap,cur,e,J,?_,r⟩;have D:g<w.heap.size:=by
   rcases kL g w.heap.size with D|hge
   ·exact D
   ·rw[kN hge]at I;cases I
  exact(M g J D).trans I
theorem pJ{B:Nat}{w:World}{e:TypeId}{n:Nat}{v:Value}{xs:List Value}(h:w.ownsRow B e 1 v n xs):∃A c,v=.slice A n c/\n<=c:=by
 rcases h.2 with⟨rfl,I⟩|⟨g,cap,cur,rfl,_,_,D,_⟩
 ·exact⟨none,0,by rw[I],by omega⟩
 ·exact⟨_,cap,rfl,D⟩
theorem Pe:(prog.info? 3).map (fun i=>(i.zero,i.size,i.bytes))=some (some (.int .i64 0),1,8):=by kernel_rfl
theorem infoByte:(prog.info? 5).map (fun i=>(i.zero,i.size,i.bytes))=some (some (.int .u8 0),1,1):=by kernel_rfl
theorem AU{ops:Array Oper}{rest:List Oper}{o:Oper}{a:Act}{Q:Exit->Act->World->Prop}(O:o.guard=none)(s x:Operand)
  (ho:o.op=.call { callee:=.builtin .append,args:=#[s,x],argTypes:=#[71,71] })
  (B:Nat)(w1:World)(u:Value)(l:List Nat)(d:Nat)(D:Int)(hs:a.eval s=u)(S:Nat)(hx:a.eval x=.slice (some ⟨S,0,none⟩) 1 1)(hS:w1.heap.size=S)(hD:D=(d:Int))
  (U:pZ B w1 u l)(hB:B<=w1.heap.size)(hl:l.length<=1000000)
  (h:∀g c w2,pZ B w2 (.slice (some ⟨g,0,none⟩) (l.length+1) c) (l++[d])->Below B w1 w2->wpList prog ops Q rest (a.put o.dst (.slice (some ⟨g,0,none⟩) (l.length+1) c)) w2):
  wpList prog ops Q (o::rest) a (w1.alloc (.cells #[D] 3)):=by
 subst hS hD;refine vj O fun _ hK=>?_;obtain⟨i0,hi,N,M,J⟩:=qE Pe;refine vh _ s x 71 ho B 3 i0 _ 1 8 underlying71 hi N M J rfl (by omega) u l.length _ hs (qZ U _) ⟨w1,0,none⟩ 1 1 [.int .i64 (d:Int)] hx rfl
  (qv (cs:=#[(d:Int)]) (qq _ _)) (by simp[Value.oneCell']) (by omega) (by unfold maxLen;omega) (by omega) (by rw[jO];omega) _ rfl ?_
 intro g c w2 hown1 I hat _;refine hK _ _ (h g c w2 ?_ ?_)
 ·unfold pZ;rw[kS,gM];exact hown1
 ·have h1:=(gH B w1).alloc hB (.cells #[(d:Int)] 3);exact h1.trans ⟨I.os,I.tape,I.output,I.size,fun k hk=>I.block k (by rw[jO];omega) (fun e=>by have:=(va U k e.symm).1;omega)⟩
theorem r5{ops:Array Oper}{rest:List Oper}{o:Oper}{a:Act}{Q:Exit->Act->World->Prop}(O:o.guard=none)(s x:Operand)
  (ho:o.op=.call { callee:=.builtin .append,args:=#[s,x],argTypes:=#[27,27] })
  (B:Nat)(w1:World)(u:Value)(l:List UInt8)(d:UInt8)(D:Int)(hs:a.eval s=u)(S:Nat)(hx:a.eval x=.slice (some ⟨S,0,none⟩) 1 1)(hS:w1.heap.size=S)(hD:D=(d.toNat:Int))
  (U:D0 B w1 u l)(hB:B<=w1.heap.size)(hl:l.length<=1000000)
  (h:∀g c w2,D0 B w2 (.slice (some ⟨g,0,none⟩) (l.length+1) c) (l++[d])->Below B w1 w2->wpList prog ops Q rest (a.put o.dst (.slice (some ⟨g,0,none⟩) (l.length+1) c)) w2):
  wpList prog ops Q (o::rest) a (w1.alloc (.cells #[.int .u8 D] 5)):=by
 subst hS hD;refine vj O fun _ hK=>?_;obtain⟨i0,hi,N,M,J⟩:=qE infoByte;refine vh _ s x 27 ho B 5 i0 _ 1 1 underlying27 hi N M J rfl (by omega) u l.length _ hs (qZ U _) ⟨w1,0,none⟩ 1 1 [.int .u8 (d.toNat:Int)] hx rfl
  (qv (cs:=#[.int .u8 (d.toNat:Int)]) (qq _ _)) (by simp[Value.oneCell']) (by omega) (by unfold maxLen;omega) (by omega) (by rw[jO];omega) _ rfl ?_
 intro g c w2 hown1 I hat _;refine hK _ _ (h g c w2 ?_ ?_)
 ·unfold D0;rw[kS,gM];exact hown1
 ·have h1:=(gH B w1).alloc hB (.cells #[.int .u8 (d.toNat:Int)] 5);exact h1.trans ⟨I.os,I.tape,I.output,I.size,fun k hk=>I.block k (by rw[jO];omega) (fun e=>by have:=(va U k e.symm).1;omega)⟩
theorem D1(c:Nat)(I:0<c)(h:c<100):i7 c=c%10::i7 (c/10):=by
 unfold i7;by_cases D:c<10
 ·rw[gB (by omega),gG D,Nat.mod_eq_of_lt D,gG (by omega)]
 ·rw[gB (by omega),gB D,gB (by omega),gG (by omega)]
theorem D2:i7 0=[]:=rfl
theorem LB(c:Nat)(h:c<100):∀x∈i7 c,x<=9:=by
 unfold i7;intro x D;split at D
 ·cases D
 ·split at D
  ·(obtain rfl:x=c:=by simpa using D);omega
  ·rcases List.mem_cons.1 D with rfl|D
   ·omega
   ·(obtain rfl:x=c/10:=by simpa using D);omega
theorem GL(c:Nat):(i7 c).length<=2:=by
 unfold i7;split
 ·simp
 ·split<;>simp
theorem Ct(f:Nat)(I:f<=16):∀(l:List Nat)(m:Nat),(∀x∈l,x<=9)->m<=15->∀x∈eJ f l m,x<=9
 |[],m,_,M,x,D=>LB m (by omega) x D
 |y::r,m,hd,M,x,D=>by
  have J:=hd y (vb);have hb:y*f<=9*16:=Nat.mul_le_mul J I;rw[eJ]at D;rcases List.mem_cons.1 D with rfl|D
  ·omega
  ·exact Ct f I r _ (fun z hz=>hd z (qn _ hz)) (by omega) x D
theorem sU(f:Nat):∀(l:List Nat)(m:Nat),(eJ f l m).length<=l.length+2
 |[],m=>by rw[eJ];have:=GL m;simp;omega
 |y::r,m=>by rw[eJ,gO,gO];have:=sU f r ((y*f+m)/10);omega
theorem GM(B:Nat)(v:Value)(l:List Nat)(f m:Nat)(w:World)(M:pZ B w v l)(hB:B<=w.heap.size)(hd:∀x∈l,x<=9)(hf:f<=16)(hm:m<=15)(hl:l.length<=1000):
  Calls prog 90 #[v,(f:Int),(m:Int)] w fun e w'=>∃v',e=.returned v'/\pZ B w' v' (eJ f l m)/\Below B w w':=by
 obtain⟨A,cp,rfl,g0⟩:=pJ M;obtain⟨T,hT⟩:∃T,T=eJ f l m:=⟨_,rfl⟩;rw[<-hT];have HT:=hid hT;(have g2:T.length<=1002:=by rw[hT];have:=sU f l m;omega);clear hT;(go_enter func90,ntmps90);go_wp2_with fail;go_loopg [2,7,8,11] l.length (fun gg u2 _ _ u11 wr=>∃(i c:Nat)(done:List Nat),i<=l.length/\l.length-i<=gg/\u2=.int .i64 (c:Int)/\u11=.int .i64 (i:Int)/\done.length=i/\pZ B wr (.slice A l.length cp) (done++l.drop i)/\Below B w wr/\done++eJ f (l.drop i) c=T/\c<=15)
 case atStart=>exact⟨0,m,[],gQ _,by omega,rfl,rfl,rfl,M,gH _ _,HT.out.symm,hm⟩
 case round=>
  clear M hm;obtain⟨i,c,done,hi,gx,rfl,rfl,gm,M,D,hq,hc⟩:=hrel;have HO:=hid M;have HQ:=hid hq;have I:=hid gm;clear M hq gm;by_cases yk:i<l.length
  ·(have gj:(i:Int)<(l.length:Int):=by omega);(have g4:(0:Int)<=(i:Int):=by omega);have ga:=kF yk;have ge:=hd _ (gS yk);generalize l[i]=x at *;have gt:=hid ga;have J:=HO.out;rw[ga]at J;clear ga;obtain⟨g,c',hv,gp,gw⟩:=qM J (by rw[gM,gO];omega);(have U:(done++x::l.drop (i+1)).length=l.length:=by rw[gM,gO,jH,I.out];omega);injection hv with e1 e2 e3;subst e1 e3;unfold pZ at J;rw[U]at J;have gb:=qT J i (by omega);have gy:=World.ownsRow.frozenAt J i;(have h:((done++x::l.drop (i+1)).map fun(d:Nat)=>Value.int .i64 (d:Int))[i]? = some (.int .i64 (x:Int)):=by rw[kS,List.getElem?_append_right (by rw[jR,I.out];exact gC _)];simp[I.out]);rw[h]at gb;have hp:x*f<=9*16:=Nat.mul_le_mul ge hf;(have q1:IntKind.i64.wrap ((x:Int)*(f:Int))=((x*f:Nat):Int):=by rw[show(x:Int)*(f:Int)=((x*f:Nat):Int)by simp];exact jC _ (by omega));have HX:=hid (show eJ f (l.drop i) c=(x*f+c)%10::eJ f (l.drop (i+1)) ((x*f+c)/10)by rw[gt.out,eJ]);generalize x*f=p at *;have q2:IntKind.i64.wrap ((p:Int)+(c:Int))=(p:Int)+(c:Int):=jC _ (by omega);have gh:=World.ownsRow.stored J i (.int .i64 (((p:Int)+(c:Int))%10));(have O:pZ B (wr.setCell ⟨g,i,none⟩ (.int .i64 (((p:Int)+(c:Int))%10))) (.slice (some ⟨g,0,none⟩) l.length cp) ((done++[(p+c)%10])++l.drop (i+1)):=by have h1:=gh.1;(have e:((done++x::l.drop (i+1)).map fun(d:Nat)=>Value.int .i64 (d:Int)).set i (.int .i64 (((p:Int)+(c:Int))%10))=((done++[(p+c)%10])++l.drop (i+1)).map fun(d:Nat)=>Value.int .i64 (d:Int):=by rw[show((p:Int)+(c:Int))%10=(((p+c)%10:Nat):Int)by omega];rw[kS,List.set_append_right _ _ (by rw[jR,I.out];exact gC _)];simp[I.out]);rw[e]at h1;unfold pZ;rw[show((done++[(p+c)%10])++l.drop (i+1)).length=l.length by rw[gM,gM,jH,I.out];simp;omega];exact h1);have gd:Below B w (wr.setCell ⟨g,i,none⟩ (.int .i64 (((p:Int)+(c:Int))%10))):=D.setCell (by exact gp) _;have gs:=hid O;have HI:=hid (show(((p:Int)+(c:Int))/10)=(((p+c)/10:Nat):Int)by omega);(have gi:(p+c)/10<=15:=by omega);clear gh O J h ge U e2;go_wp2_with fail;go_roundg (l.length-(i+1))
   case measure=>omega
   case rel=>exact⟨i+1,(p+c)/10,done++[(p+c)%10],by omega,gC _,by rw[HI.out],by go_num,by rw[gM,I.out];rfl,gs.out,gd,by rw[<-HQ.out,HX.out,gL];rfl,gi⟩
  ·(have gj:¬ (i:Int)<(l.length:Int):=by omega);have N:Hid (done++i7 c=T):=hid (by rw[<-HQ.out,kz (by omega),eJ]);have gn:Hid (pZ B wr (.slice A l.length cp) done):=hid (by have:=HO.out;rw[kz (by omega),kE]at this;exact this);(have gl:done.length=l.length:=by have:=I.out;omega);have g5:=hid gl;clear HQ HO I gl;rename World=>wo;go_wp2_with fail;go_loopg [0,2] c (fun gg u0 u2 wr=>∃(L:List Nat)(d:Nat),pZ B wr u0 L/\u2=.int .i64 (d:Int)/\L++i7 d=T/\Below B w wr/\d<=15/\d<=gg)
   case atStart=>exact⟨done,c,gn.out,rfl,N.out,D,hc,gC _⟩
   case round=>
    clear gn N D hc;obtain⟨L,d,M,rfl,hq,D,gu,gz⟩:=hrel;have HO:=hid M;have HQ:=hid hq;obtain⟨A1,c1,hu,g1⟩:=pJ M;clear M hq;subst hu;by_cases gq:0<d
    ·(have gv:(0:Int)<(d:Int):=by omega);have N:=hid (show(L++[d%10])++i7 (d/10)=T by rw[<-HQ.out,D1 d gq (by omega),gL];rfl);(have g3:L.length<=1002:=by have:=jM List.length HQ.out;rw[gM]at this;omega);have HI:=hid (show((d:Int)/10)=((d/10:Nat):Int)by omega);have HM:=hid (show((d:Int)%10)=((d%10:Nat):Int)by omega);clear HQ;go_wp2_with (at_builtin;refine AU rfl (.tmp 31) (.tmp 34) rfl B _ _ L (d%10) _ rfl _ rfl rfl HM.out HO.out (by have:=D.size;omega) (by omega) ?_;intro g c w2 gr gd);go_roundg (d/10)
     case measure=>omega
     case rel=>exact⟨L++[d%10],d/10,gr,by rw[HI.out],N.out,D.trans gd,by omega,gC _⟩
    ·(obtain rfl:d=0:=by omega);have HL:Hid (L=T):=hid (by rw[<-HQ.out,D2,kE]);go_wp2_with fail;go_ret;exact⟨_,rfl,by rw[<-HL.out];exact HO.out,D⟩
end
end Go.Proofs.YteialcjaiocjdaaGreatDoor
