/-
  Parts of the proof: Gopen Pfile Pexpr Pawk Ustab Pawake Itm Ppr Ptok Pshift Pwr Pnt. By an AI agent.
-/
import Derived.Test.YtiebcdeafofgdaaGreatDoorRows
import Derived.Test.YtiebcdeafofgdaaGreatDoorL03
import Derived.Test.YtiebcdeafofgdaaGreatDoorL00
import Derived.Test.YtiebcdeafofgdaaGreatDoorL18
import Derived.Test.YtiebcdeafofgdaaGreatDoorL07
import Derived.Test.YtiebcdeafofgdaaGreatDoorL01
import Derived.Test.YtiebcdeafofgdaaGreatDoorL11
import Derived.Test.YtiebcdeafofgdaaGreatDoorL17
import Derived.Lib.SmallJoins
set_option maxRecDepth 100000
set_option maxHeartbeats 8000000
namespace Go.Proofs.YtiebcdeafofgdaaGreatDoor
section
open Go.RowKit Go.ChangeShapes Go.WideShapes Go.Deep Go.Joins
mutual
def mx:Nd→Nat
 | .mk _ t l _=>t.size+lX l+1
def lX:List Nd→Nat
 | []=>0
 | n::l=>mx n+lX l
end
theorem sE (n:Nd):mx n=n.text.size+lX n.kids+1:=by cases n;unfold mx;rfl
theorem t6:∀ l:List Nd,l.length≤lX l
 | []=>by simp
 | n::l=>by have:=t6 l;have:=sE n;unfold lX;rw [List.length_cons];omega
theorem t7:∀ {l:List Nd} {n:Nd},n∈l→mx n≤lX l
 | m::l,n,h=>by
  unfold lX;rcases List.mem_cons.1 h with rfl | h
  ·omega
  ·have:=t7 h;omega
theorem mn:∀ (g:Nat) (n:Nd),(aF g n).length≤mx n
 | 0,n=>by simp [aF]
 | g+1,n=>by
  have key:∀ l:List Nd,(l.flatMap (aF g)).length≤lX l:=by
   intro l;induction l with
   | nil=>simp
   | cons m l ih=>have:=mn g m;rw [List.flatMap_cons,List.length_append];unfold lX;omega
  have:=key n.kids;unfold aF;rw [List.length_cons,sE];omega
theorem sF:∀ (g:Nat) (n:Nd),mx n≤1000000000→nN g n
 | 0,n,_=>by unfold nN;trivial
 | g+1,n,h=>by have e:=sE n;have:=t6 n.kids;unfold nN;refine ⟨⟨by omega,by omega⟩,fun k hk=>sF g k ?_⟩;have:=t7 hk;omega
def CC (p:Nd × Value × Value × Value × Value):List Value:=[p.2.1,p.2.2.1,p.2.2.2.1,p.2.2.2.2]
theorem au.of_rows {X:Nat→Prop} {w:World} : ∀ l:List (Nd × Value × Value × Value × Value),(∀ p∈l,bK X w p.1 (CC p)) →
  au X w (l.map (·.1)) (l.flatMap CC)
 | [],_=>au.nil
 | p::l,h=>by rw [List.map_cons,List.flatMap_cons];exact au.cons (h p (by simp)) (au.of_rows l fun q hq=>h q (by simp [hq]))
section
variable {H:Type} {enc:TypeId × Value→H} {w:World} {base:Nat} {spare:Nat→Bool} {held:Bool}
theorem rW:∀ (l:List Nd) (m:List (DataW H)),l.length=m.length→(∀ i (h:i<l.length) (h':i<m.length),mx l[i]≤Rows.uptoBulk m[i])→lX l≤Rows.uptoBulkAll m
 | [],_,_,_=>by unfold lX;exact Nat.zero_le _
 | n::l,[],h,_=>by simp at h
 | n::l,d::m,h,D=>by have I:=D 0 (by simp) (by simp);(have J:=rW l m (by simpa using h) fun i h h'=>by have:=D (i+1) (by simpa using h) (by simpa using h');simpa using this);unfold lX Rows.uptoBulkAll;simp at I;omega
theorem yG:Tryz.prog.cellsOf 24=4:=by kernel_rfl
theorem t8:Tryz.prog.cellsOf 3=1:=by kernel_rfl
theorem CD:Tryz.prog.cellsOf 9=1:=by kernel_rfl
theorem CE:Tryz.prog.cellsOf 22=1:=by kernel_rfl
theorem wu {A:Option Addr} {B n sz:Nat} {xs:List Value} (h:bB w B sz A n xs) (hs:0<sz):dk (fun _=>True) w sz A n xs:=by
 refine ⟨h.1,fun J=>?_⟩;obtain ⟨ad,N,hb,K⟩:=h.2 J;(have M:0<xs.length:=by rw [h.1];exact Nat.mul_pos J hs);have O:=K 0 xs[0] (List.getElem?_eq_getElem M);have D:=lh (show w.cell? ad=some xs[0] from O);obtain ⟨b,o,s⟩:=ad;(have I:s=none:=by simpa using D);subst I;refine ⟨b,o,N,trivial,fun j u hu=>?_⟩;have:=K j u hu
 rwa [nL] at this
theorem FY {α:Type} : ∀ {l:List α},l.length=4→∃ a b c d,l=[a,b,c,d]
 | [a,b,c,d],_=>⟨a,b,c,d,rfl⟩
theorem AP:∀ (N fuel:Nat),fuel≤N→∀ (cs:List Value) (x:DataW H × List MemPlace),DataW.trod enc Tryz.prog w base spare held fuel 22 cs=some x →
  ∃ (A:Option Addr) (len cap:Nat) (l:List Nd) (xs:List Value),cs=[.slice A len cap]∧l.length=len∧len≤cap∧dk (fun _=>True) w 4 A len xs∧au (fun _=>True) w l xs∧lX l≤Rows.uptoBulk x.1:=by
 intro N;induction N with
 | zero=>
  intro fuel hN cs x h;rcases DataW.trod_slice Tryz.underlying22 h with ⟨rfl,rfl⟩ | ⟨a,len,cap,elems,rest,n,hf,_⟩
  ·exact ⟨none,0,0,[],[],rfl,rfl,Nat.le_refl _,⟨rfl,fun h=>absurd h (by simp)⟩,au.nil,by unfold lX;exact Nat.zero_le _⟩
  ·omega
 | succ N ih=>
  intro fuel hN cs x h;rcases DataW.trod_slice Tryz.underlying22 h with ⟨rfl,rfl⟩ | ⟨a,len,cap,elems,rest,n,hf,rfl,rfl,hb,hl,hm,K,gi,-,-⟩
  ·exact ⟨none,0,0,[],[],rfl,rfl,Nat.le_refl _,⟨rfl,fun h=>absurd h (by simp)⟩,au.nil,by unfold lX;exact Nat.zero_le _⟩
  ·have key:∀ i,i<len→∃ p:Nd × Value × Value × Value × Value,bK (fun _=>True) w p.1 (CC p)∧(∀ j u,(CC p)[j]? = some u→w.cell? (a.add (i * 4+j))=some u)∧∃ e,elems[i]? = some e∧mx p.1≤Rows.uptoBulk e.1:=by
    intro i U;have h1:=gi i U;(have O:i<elems.length:=by omega);rw [List.getElem?_eq_getElem O,Option.bind_eq_some_iff,yG] at h1;obtain ⟨cs',hc,ht⟩:=h1;obtain ⟨-,gj,gk⟩:=World.cells?_some hc;obtain ⟨ys,n',gm,hy,-,gb,D⟩:=DataW.trod_struct Tryz.underlying24 ht;obtain ⟨c0,c1,c2,c3,rfl⟩:=FY gj;obtain ⟨y0,y1,y2,y3,rfl⟩:=FY (show ys.length=4 from gb);(have t0:DataW.trod enc Tryz.prog w base spare held n' 3 [c0]=some y0:=by have this:DataW.trod enc Tryz.prog w base spare held n' 3 (([c0,c1,c2,c3].drop 0).take (Tryz.prog.cellsOf 3))=some y0:=D 0 _ rfl;rw [t8] at this;exact this);(have t1:DataW.trod enc Tryz.prog w base spare held n' 9 [c1]=some y1:=by have this:DataW.trod enc Tryz.prog w base spare held n' 9 (([c0,c1,c2,c3].drop 1).take (Tryz.prog.cellsOf 9))=some y1:=D 1 _ rfl;rw [CD] at this;exact this);(have t2:DataW.trod enc Tryz.prog w base spare held n' 22 [c2]=some y2:=by have this:DataW.trod enc Tryz.prog w base spare held n' 22 (([c0,c1,c2,c3].drop 2).take (Tryz.prog.cellsOf 22))=some y2:=D 2 _ rfl;rw [CE] at this;exact this);(have t3:DataW.trod enc Tryz.prog w base spare held n' 3 [c3]=some y3:=by have this:DataW.trod enc Tryz.prog w base spare held n' 3 (([c0,c1,c2,c3].drop 3).take (Tryz.prog.cellsOf 3))=some y3:=D 3 _ rfl;rw [t8] at this;exact this);obtain ⟨z0,e0,f0,-⟩:=DataW.trod_int Tryz.underlying3 t0;obtain ⟨s1,e1,f1,-⟩:=DataW.trod_string Tryz.underlying9 t1;obtain ⟨A2,gl,I,l2,ga,e2,gg,M,gd,ge,gn⟩:=ih n' (by omega) _ _ t2;obtain ⟨z3,e3,f3,-⟩:=DataW.trod_int Tryz.underlying3 t3;simp only [List.cons.injEq,and_true] at e0 e1 e2 e3;subst e0 e1 e2 e3 f0 f1 f3 gg;refine ⟨(.mk z0 s1 l2 z3,.int .i64 z0,.string s1,.slice A2 l2.length I,.int .i64 z3),?_,?_,_,List.getElem?_eq_getElem O,?_⟩
    ·unfold bK;exact ⟨A2,I,ga,rfl,M,gd,ge⟩
    ·intro j u hu;have hj:j<4:=(List.getElem?_eq_some_iff.1 hu).1;have:=gk j hj;rw [Go.Deep.add_add] at this;rw [this];exact hu
    ·rw [hy];unfold mx;simp [Rows.uptoBulk,Rows.uptoBulkAll];omega
   obtain ⟨l,J,hp⟩:=ov len key;refine ⟨some a,len,cap,l.map (·.1),l.flatMap CC,rfl,by simpa using J,hl,wu (pd (fun _=>rfl) (by omega) J (fun i h j u hu=>(hp i h).2.1 j u hu)) (by omega),au.of_rows l (fun p hpm=>?_),?_⟩
   ·obtain ⟨i,U,rfl⟩:=List.mem_iff_getElem.1 hpm;exact (hp i U).1
   ·have:=rW (l.map (·.1)) (elems.map (·.1)) (by simp [J,K]) (fun i h h'=>by (have U:i<l.length:=by simpa using h);obtain ⟨e,q,hb⟩:=(hp i U).2.2;(have gh:i<elems.length:=by simpa using h');rw [List.getElem?_eq_getElem gh] at q;injection q with q;subst q;simpa using hb);unfold Rows.uptoBulk;omega
theorem wv {r:Reach} {b0:Nat} {v:Value} {d:DataW H} {p:List MemPlace} (hv:Value.okWide Tryz.prog w r b0 24 v) (h:DataW.Trod enc Tryz.prog w base spare held 24 v d p) :
  ∃ n:Nd,ax w v n∧mx n≤Rows.uptoBulk d:=by obtain ⟨v0,v1,v2,v3,y0,y1,y2,y3,m,rfl,rfl,-,t0,t1,t2,t3⟩:=open_agg4 Tryz.underlying24 (by kernel_rfl) yG hv h;obtain ⟨z0,u,f0,-⟩:=DataW.trod_int Tryz.underlying3 t0;obtain ⟨s1,q,f1,-⟩:=DataW.trod_string Tryz.underlying9 t1;obtain ⟨A2,O,I,l2,J,j,N,D,K,M,ga⟩:=AP m m (Nat.le_refl _) _ _ t2;obtain ⟨z3,U,f3,-⟩:=DataW.trod_int Tryz.underlying3 t3;simp only [List.cons.injEq,and_true] at u q j U;subst u q j U f0 f1 f3 N;refine ⟨.mk z0 s1 l2 z3,⟨A2,I,J,rfl,D,K,M⟩,?_⟩;unfold mx;simp [Rows.uptoBulk,Rows.uptoBulkAll];omega
end
end
section
open Go.RowKit Go.Lib Go.Proofs
def fG:oM:=Ej 40
theorem FZ {s:ByteArray} {L:List cK} (E:cw) (w:World) (D:rL E w s L):te E fG:=
 IM E (AC E D.small) 40 (by decide)
theorem ES (K:Option Addr) (c:Nat) (s:ByteArray) (w:World) (N:du w K c s) (O:iD w) (J:s.size≤1000000000) {p n:Int} (h:bV s=.err p n)
  (I:∀ L,di s=.toks L→L.find? dh=none→∀ t∈L,t.kind≠5) :
  Calls Tryz.prog 13 #[.slice K s.size c] w (lT w (.bad p n)):=by
 (have M:lE fG s=.bad p n:=by unfold lE;rw [h]);have:=nx K c s w N O J I fG (fun L E w' D=>by rw [h] at D;cases D) (by rw [M];exact nofun) (fun L n s1 D=>by rw [h] at D;cases D)
 rwa [M] at this
def sG (r:nj):Bool:=match r with
 | .toks L=>L.all fun t=>decide (t.kind≠5)
 | .err _ _=>true
theorem yH {s:ByteArray} (h:sG (di s)=true):∀ L,di s=.toks L→L.find? dh=none→∀ t∈L,t.kind≠5:=by intro L hL _ t ht;rw [hL] at h;exact of_decide_eq_true (List.all_eq_true.1 h t ht)
def sH (s:ByteArray) (r:nj) (m:R Nd):Bool:=match r with
 | .toks L=>match m ⟨L,(s.size:Int)⟩ ⟨0,false,-1⟩ with
   | .ok n s1=>decide (s1.at_≤L.length)&&decide (mx n≤1048576)
   | _=>true
 | .err _ _=>true
theorem ua {s:ByteArray} {m:R Nd} (h:sH s (bV s) m=true):∀ L n s1,bV s=.toks L→m ⟨L,(s.size:Int)⟩ ⟨0,false,-1⟩=.ok n s1→s1.at_≤L.length∧nN 101 n∧(aF 100 n).length≤1000000000:=by intro L n s1 hL hn;rw [hL] at h;unfold sH at h;simp only [hn,Bool.and_eq_true] at h;have D:=of_decide_eq_true h.1;have I:=of_decide_eq_true h.2;exact ⟨D,sF 101 n (by omega),by have:=mn 100 n;omega⟩
theorem CF (A0:Option Addr) (c:Nat) (s:ByteArray) (w:World) (I:du w A0 c s) (J:iD w) (D:s.size≤1000000000)
  (N:sG (di s)=true) (M:sH s (bV s) (iQ fG)=true) (K:lE fG s≠.out) :
  Calls Tryz.prog 13 #[.slice A0 s.size c] w (lT w (lE fG s)):=
 nx A0 c s w I J D (yH N) fG (fun _ E w' _ hfr=>FZ E w' hfr) K (ua M)
theorem CG (s:ByteArray) (w:World) (I:iD w) (D:s.size≤1000000000)
  (M:sG (di s)=true) (K:sH s (bV s) (cR fG.expr)=true) (J:mE fG s≠.out) :
  Calls Tryz.prog 16 #[.string s] w (lT w (mE fG s)):=
 sC s w I D (yH M) fG (fun _ E w' _ hfr=>FZ E w' hfr) J (ua K)
end
section
def mS:ByteArray:=(⟨#[112,97,99,107,97,103,101,32,112,59,32,102,117,110,99,32,102,40,97,32,105,110,116,41,32,105,110,116,32,123,32,114,101,116,117,114,110,32,45,97,32,42,32,50,32,125]⟩:BA)
def sI:ByteArray:=(⟨#[120,91,105,110,116,93,40,49,41]⟩:BA)
def Ix (r:pA):Bool:=match r with
 | .tree n=>decide (n.text=(⟨#[112]⟩:BA))&&match n.kids with
   | [k]=>decide (k.kind=2)
   | _=>false
 | _=>false
def Iy (r:pA):Bool:=match r with
 | .tree n=>decide (n.kind=21)&&match n.kids with
   | k::_=>decide (k.kind=22)
   | _=>false
 | _=>false
theorem AQ:Iy (mE fG sI)=true:=by decide +kernel
theorem AR:Ix (lE fG mS)=true:=by decide +kernel
theorem ub:∃ k b l a r,lE fG mS=.tree (.mk k (⟨#[112]⟩:BA) [.mk 2 b l a] r):=by
 have h:=AR;cases I:lE fG mS with
 | bad p e=>rw [I] at h;exact absurd h Bool.false_ne_true
 | out=>rw [I] at h;exact absurd h Bool.false_ne_true
 | tree n=>
  rw [I] at h;obtain ⟨k,t,l,r⟩:=n;unfold Ix at h;simp only [Nd.text_mk,Nd.kids_mk,Bool.and_eq_true] at h;obtain ⟨J,D⟩:=h;have J:=of_decide_eq_true J;subst J;split at D
  ·rename_i q;obtain ⟨M,b,K,a⟩:=q;have D:=of_decide_eq_true D;have D:M=2:=D;subst D;exact ⟨k,b,K,a,r,rfl⟩
  ·cases D
theorem uc:∃ t b l a q r,mE fG sI=.tree (.mk 21 t (.mk 22 b l a::q) r):=by
 have h:=AQ;cases I:mE fG sI with
 | bad p e=>rw [I] at h;exact absurd h Bool.false_ne_true
 | out=>rw [I] at h;exact absurd h Bool.false_ne_true
 | tree n=>
  rw [I] at h;obtain ⟨k,t,l,r⟩:=n;unfold Iy at h;simp only [Nd.kind_mk,Nd.kids_mk,Bool.and_eq_true] at h;obtain ⟨J,D⟩:=h;have J:=of_decide_eq_true J;subst J;split at D
  ·rename_i q rest;obtain ⟨M,b,K,a⟩:=q;have D:=of_decide_eq_true D;have D:M=22:=D;subst D;exact ⟨t,b,K,a,rest,r,rfl⟩
  ·cases D
def Ag (d:Nat) (P Q:Nd→Bool):Prop:=∀ n,cq d n→P n=Q n
structure rA (d:Nat) (F G:bj):Prop where
 typ:Ag d F.typ G.typ
 expr:Ag d F.expr G.expr
 block:Ag d F.block G.block
 stmt:Ag d F.stmt G.stmt
 ifS:Ag d F.ifS G.ifS
theorem Ag.refl (d:Nat) (P:Nd→Bool):Ag d P P:=fun _ _=>rfl
theorem n7 {d:Nat} {P Q:Nd→Bool} (h:Ag d P Q) {l:List Nd} (D:∀ k∈l,cq d k):l.all P=l.all Q:=by
 induction l with
 | nil=>rfl
 | cons x l ih=>rw [List.all_cons,List.all_cons,h x (D x (by simp)),ih (fun k hk=>D k (by simp [hk]))]
inductive In (d:Nat):List (Nd→Bool)→List (Nd→Bool)→Prop where
 | nil:In d [] []
 | cons {P Q:Nd→Bool} {l m:List (Nd→Bool)} : Ag d P Q→In d l m→In d (P::l) (Q::m)
theorem wJ {d:Nat} : ∀ {ps qs:List (Nd→Bool)},In d ps qs→∀ (ks:List Nd),(∀ k∈ks,cq d k)→aH ps ks=aH qs ks
 | _,_,.nil,ks,_=>by cases ks <;> rfl
 | _,_,.cons h hs,[],_=>rfl
 | _,_,.cons h hs,k::ks,D=>by unfold aH;rw [h k (D k (by simp)),wJ hs ks (fun j hj=>D j (by simp [hj]))]
theorem ic {d:Nat} (k:Int) {ps qs:List (Nd→Bool)} (h:In d ps qs):Ag (d+1) (bQ k ps) (bQ k qs):=by intro n hn;unfold bQ;rw [wJ h n.kids (fun j hj=>hn.kid hj)]
theorem oa {d:Nat} (k:Int) {ps qs:List (Nd→Bool)} (h:In d ps qs):Ag d (bQ k ps) (bQ k qs):=by intro n hn;unfold bQ;rw [wJ h n.kids (fun j hj=>hn.kid' hj)]
theorem l9 {d:Nat} {P Q:Nd→Bool} (so:ByteArray→Bool) (h:Ag d P Q):Ag d (fun n=>P (aq so n)) (fun n=>Q (aq so n)):=fun _ hn=>h _ hn.named
theorem iy {d:Nat} {P Q P' Q':Nd→Bool} (h:Ag d P Q) (h':Ag d P' Q'):Ag d (bI P P') (bI Q Q'):=by intro n hn;unfold bI;rw [h n hn,h' n hn]
theorem yJ {d:Nat} {P Q:Nd→Bool} (h:Ag d P Q):Ag d (eP P) (eP Q):=by intro n hn;unfold eP;rw [n7 h (fun j hj=>hn.kid' hj)]
section
variable {d:Nat} {F G:bj}
theorem ui (h:rA d F G) (so:ByteArray→Bool):Ag d (dI F so) (dI G so):=l9 so (oa 8 (.cons h.typ .nil))
theorem EV (h:rA d F G) (so:ByteArray→Bool):Ag d (ep F so) (ep G so):=oa 12 (.cons (yJ (ui h so)) (.cons (iy (Ag.refl d ag) h.typ) .nil))
theorem GB (h:rA d F G) (so:ByteArray→Bool):Ag (d+1) (ep F so) (ep G so):=ic 12 (.cons (yJ (ui h so)) (.cons (iy (Ag.refl d ag) h.typ) .nil))
theorem Bd (h:rA d F G):Ag d (dn F) (dn G):=EV h aw
theorem GC (h:rA d F G):Ag (d+1) (dg F) (dg G):=by intro n hn;unfold dg;rw [n7 h.typ (fun j hj=>hn.kid hj),ic 11 (.cons h.typ .nil) n hn,GB h dL n hn]
theorem GD (h:rA d F G):Ag (d+1) (fd F) (fd G):=by intro n hn;unfold fd;rw [ic 5 (.cons (iy (Ag.refl d ag) h.typ) (.cons (iy (Ag.refl d ag) h.expr) .nil)) (aq aw n) hn.named]
theorem EW (h:rA d F G):Ag d (cN F) (cN G):=by intro n hn;unfold cN;rw [h.expr n hn,h.typ n hn]
theorem uj {n:Nd} (D:cq (d+1) n) (i:Nat):∀ k∈n.kids.drop i,cq d k:=fun _ hk=>D.kid (List.mem_of_mem_drop hk)
theorem CO {P Q:Nd→Bool} (h:Ag d P Q) {n:Nd} (I:cq (d+1) n) (D:0<n.kids.length):P (n.kids.getD 0 eG)=Q (n.kids.getD 0 eG):=by rw [List.getD_eq_getElem?_getD,List.getElem?_eq_getElem D];exact h _ (I.kid (List.getElem_mem D))
theorem EX (h:rA d F G):Ag (d+1) (ay F) (ay G):=by
 intro n hn;unfold ay;rw [ic 19 (.cons h.expr .nil) (aq d6 n) hn.named,ic 20 (.cons h.expr (.cons h.expr .nil)) (aq dp n) hn.named,n7 h.expr (fun j hj=>hn.kid hj),
  ic 23 (.cons h.expr .nil) (aq aw n) hn.named,n7 (EW h) (uj hn 1),n7 h.expr (uj hn 1),ic 25 (.cons (Bd h) (.cons h.block .nil)) n hn]
 by_cases D:0<n.kids.length
 ·rw [CO h.expr hn D,CO h.typ hn D]
 ·(have I:¬ 1<n.kids.length:=by omega);simp [D,I]
theorem uk (h:rA d F G):Ag (d+1) (bm F) (bm G):=by intro n hn;unfold bm;rw [n7 h.stmt (fun j hj=>hn.kid hj)]
theorem F1 (h:rA d F G):Ag (d+1) (uL F) (uL G):=ic 30 (.cons h.expr (.cons h.block (.cons (iy (iy (Ag.refl d ag) h.block) h.ifS) .nil)))
theorem ul (h:rA d F G):Ag (d+1) (cB F) (cB G):=l9 bA (ic 26 (.cons h.expr .nil))
theorem wK (h:rA d F G):Ag (d+1) (dT F) (dT G):=ic 27 (.cons h.expr (.cons h.expr .nil))
theorem wL (h:rA d F G):Ag (d+1) (dS F) (dS G):=l9 eZ (ic 28 (.cons h.expr .nil))
theorem um (h:rA d F G):Ag d (fN F) (fN G):=by intro n hn;unfold fN;rw [h.expr n hn]
theorem yK (h:rA d F G):Ag (d+1) (dJ F) (dJ G):=ic 29 (.cons (um h) .nil)
theorem Be (h:rA d F G):Ag d (cB F) (cB G):=l9 bA (oa 26 (.cons h.expr .nil))
theorem yL (h:rA d F G):Ag d (dT F) (dT G):=oa 27 (.cons h.expr (.cons h.expr .nil))
theorem yM (h:rA d F G):Ag d (dS F) (dS G):=l9 eZ (oa 28 (.cons h.expr .nil))
theorem CP (h:rA d F G):Ag d (dJ F) (dJ G):=oa 29 (.cons (um h) .nil)
theorem EY (h:rA d F G):Ag (d+1) (av F) (av G):=by
 intro n hn;unfold av;rw [GD h n hn,ul h n hn,wK h n hn,wL h n hn,yK h n hn,F1 h n hn,uk h n hn,
  ic 31 (.cons (iy (iy (Ag.refl d ag) (Be h)) (iy (yL h) (yM h))) (.cons (iy (Ag.refl d ag) h.expr) (.cons (iy (iy (Ag.refl d ag) (yL h)) (iy (yM h) (CP h))) (.cons h.block .nil)))) n hn,
  ic 32 (.cons h.expr (.cons h.block .nil)) (aq be n) hn.named,ic 33 (.cons (iy (Ag.refl d ag) h.expr) .nil) n hn]
end
theorem ch:∀ d,rA d (aa d) (aa (d+1))
 | 0=>⟨fun _ h=>h.elim,fun _ h=>h.elim,fun _ h=>h.elim,fun _ h=>h.elim,fun _ h=>h.elim⟩
 | d+1=>⟨GC (ch d),EX (ch d),uk (ch d),EY (ch d),F1 (ch d)⟩
end
section
open Go.RowKit Go.Lib Go.Proofs Go.Joins
attribute [local go_sem ↓] Go.wp_at_zero Go.wp_at_succ
attribute [local go_sem] bC bD bE bF
def ud:Array Value:=#[.int .u8 112,.int .u8 97,.int .u8 99,.int .u8 107,.int .u8 97,.int .u8 103,.int .u8 101,.int .u8 32,.int .u8 112,.int .u8 59,.int .u8 32,.int .u8 102,.int .u8 117,.int .u8 110,.int .u8 99,.int .u8 32,.int .u8 102,.int .u8 40,.int .u8 97,.int .u8 32,.int .u8 105,.int .u8 110,.int .u8 116,.int .u8 41,.int .u8 32,.int .u8 105,.int .u8 110,.int .u8 116,.int .u8 32,.int .u8 123,.int .u8 32,.int .u8 114,.int .u8 101,.int .u8 116,.int .u8 117,.int .u8 114,.int .u8 110,.int .u8 32,.int .u8 45,.int .u8 97,.int .u8 32,.int .u8 42,.int .u8 32,.int .u8 50,.int .u8 32,.int .u8 125]
theorem AS:ud=mS.data.map fun b=>.int .u8 (b.toNat:Int):=by kernel_rfl
theorem ww (w:World):du (w.alloc (.cells ud 5 (46,47))) (some ⟨w.heap.size,0,none⟩) 46 mS:=by refine .inr ⟨w.heap.size,0,rfl,by decide +kernel,by simp,fun i hi=>?_⟩;have h:=World.cell?_alloc_mark w ud 5 (46,47) (0+i);rw [h,AS,Nat.zero_add,Array.getElem?_map,Array.getElem?_eq_getElem (xs:=mS.data) hi];rfl
theorem wz (w:World) (hT:iD w):Calls Tryz.prog 17 #[] w fun e w'=>e=.returned (.bool true)∧Below w.heap.size w w':=by have ga:Below w.heap.size w (w.alloc (.cells ud 5 (46,47))):=(Below.refl _ _).alloc (Nat.le_refl _) _;obtain ⟨k0,b0,l0,a0,r0,hf⟩:=ub;obtain ⟨t1,b1,l1,a1,q1,r1,hx⟩:=uc;have HF:=CF (some ⟨w.heap.size,0,none⟩) 46 mS (w.alloc (.cells ud 5 (46,47))) (ww w) (hT.below ga) (by decide +kernel) (by decide +kernel) (by decide +kernel) (by rw [hf];exact nofun);rw [hf] at HF;have HF:Calls Tryz.prog 13 #[.slice (some ⟨w.heap.size,0,none⟩) 46 46] (w.alloc (.cells ud 5 (46,47))) _:=HF;have HF:=hid HF;have HX:=hid (fun W (hW:iD W)=>CG sI W hW (by decide +kernel) (by decide +kernel) (by decide +kernel) (by rw [hx];exact nofun));rw [hx] at HX;have gk:=hid hT;have gb:=run_convert_bytes_const_at (P:=Tryz.prog) w 27 5 ud 46 46 w.heap.size rfl Tryz.underlying27 Tryz.underlying5;unfold ud at gb;clear hf hx hT;(go_enter Tryz.func17,Tryz.ntmps17);(go_wp2_with fail);refine HF.out.mono ?_;rintro e w1 ⟨v,rfl,h,gd⟩;have u:=am ga gd;obtain ⟨A,cp,rfl,hC⟩:=h.toC;obtain ⟨U,D,A2,gm,rfl,-,O,q0,-,-,-,-⟩:=h.kidsV.kid 0 (by simp);simp only [Nd.kids_mk,List.getElem_cons_zero,Nd.kind_mk,Nat.zero_mul,Nat.add_zero] at q0;simp only [Nd.kids_mk,Nd.kind_mk,Nd.text_mk,Nd.pos_mk,List.length_cons,List.length_nil,Nat.zero_add];have q:=u.alloc u.size (.cells #[.int .i64 k0,.string (⟨#[112]⟩:BA),.slice (some ⟨U,D,none⟩) 1 cp,.int .i64 r0] 24);have gh:=(ae w1 #[.int .i64 k0,.string (⟨#[112]⟩:BA),.slice (some ⟨U,D,none⟩) 1 cp,.int .i64 r0]).2;have q2:=(((Below.refl _ w1).alloc (Nat.le_refl _) (.cells #[.int .i64 k0,.string (⟨#[112]⟩:BA),.slice (some ⟨U,D,none⟩) 1 cp,.int .i64 r0] 24)).cell (p:=⟨U,D,none⟩) O).trans q0;(have J:U<(w1.alloc (.cells #[.int .i64 k0,.string (⟨#[112]⟩:BA),.slice (some ⟨U,D,none⟩) 1 cp,.int .i64 r0] 24)).heap.size:=by simp;omega);have gi:=hid (HX.out _ (gk.out.below q));clear gd HF ga u hC gb h q0 HX O;(go_wp2_with fail);refine gi.out.mono ?_;rintro e w2 ⟨v,rfl,h,K⟩;clear gi;have j:=am q K;obtain ⟨A,M,rfl,hC⟩:=h.toC;obtain ⟨b4,I,A4,gl,rfl,-,N,q4,-,-,-,-⟩:=h.kidsV.kid 0 (by simp);simp only [Nd.kids_mk,List.getElem_cons_zero,Nd.kind_mk,Nat.zero_mul,Nat.add_zero] at q4;simp only [Nd.kids_mk,Nd.kind_mk,Nd.text_mk,Nd.pos_mk,List.length_cons];have gg:=(gh.bl K).alloc (.cells #[.int .i64 21,.string t1,.slice (some ⟨b4,I,none⟩) (q1.length+1) M,.int .i64 r1] 24);have ge:=(ae w2 #[.int .i64 21,.string t1,.slice (some ⟨b4,I,none⟩) (q1.length+1) M,.int .i64 r1]).2;have hA:Below w2.heap.size w2 (w2.alloc (.cells #[.int .i64 21,.string t1,.slice (some ⟨b4,I,none⟩) (q1.length+1) M,.int .i64 r1] 24)):=(Below.refl _ w2).alloc (Nat.le_refl _) _;have q3:=(hA.cell (p:=⟨U,D,none⟩) (Nat.lt_of_lt_of_le J K.size)).trans ((K.cell (p:=⟨U,D,none⟩) J).trans q2);have q5:=(hA.cell (p:=⟨b4,I,none⟩) N).trans q4;have gj:=j.alloc j.size (.cells #[.int .i64 21,.string t1,.slice (some ⟨b4,I,none⟩) (q1.length+1) M,.int .i64 r1] 24);obtain ⟨x0,x1,x2,x3,-,-,-,-⟩:=ac gg;obtain ⟨y0,y1,y2,y3,-,-,-,-⟩:=ac ge;clear q j gh gg ge hA hC h q2 q4 K J N;(go_wp2_with fail);go_ret;exact ⟨rfl,gj⟩
def Gx (w:World):Prop:=∀ w',Below w.heap.size w w'→Calls Tryz.prog 17 #[] w' fun e w''=>e=.returned (.bool true)∧Below w'.heap.size w' w''
theorem Gy (w:World) (D:iD w):Gx w:=fun _ hb=>wz _ (D.below hb)
theorem AT (W1:World) (t:ByteArray):∃ (W2:World) (A2:Option Addr) (c2:Nat),(Go.convert 9 27 (.string t)).run Tryz.prog W1=.ok (.slice A2 t.size c2) W2∧du W2 A2 c2 t∧Below W1.heap.size W1 W2∧W2.heap.size=W1.heap.size+1:=
 ⟨_,_,_,run_bytes_of_string (P:=Tryz.prog) W1 9 27 5 t Tryz.underlying9 Tryz.underlying27 Tryz.underlying5,pr t _,((Below.refl _ _).drew.alloc (Nat.le_refl _) _),by show (W1.heap.push _).size=_;simp⟩
end
section
open Go.Lib
abbrev bytes (s:ByteArray):List UInt8:=s.data.toList
theorem cS (x y:ByteArray):bytes (x++y)=bytes x++bytes y:=by unfold bytes;rw [ByteArray.data_append,Array.toList_append]
theorem fr (s:ByteArray) (i j:Nat):bytes (s.extract i j)=((bytes s).drop i).take (j-i):=by unfold bytes;rw [ByteArray.data_extract,Array.toList_extract,List.extract_eq_take_drop]
theorem cj {x y:ByteArray} (h:bytes x=bytes y):x=y:=by obtain ⟨a⟩:=x;obtain ⟨b⟩:=y;have:a=b:=Array.ext' h;rw [this]
theorem ck (s:ByteArray):(bytes s).length=s.size:=rfl
inductive It where
 | tok (k:Int) (x:List UInt8)
 | gap (b:UInt8)
 | nl
def Im:It→List UInt8
 | .tok _ x=>x
 | .gap b=>[b]
 | .nl=>[10]
def dA (l:List It):List UInt8:=l.flatMap Im
theorem bX (a:It) (l:List It):dA (a::l)=Im a++dA l:=by unfold dA;rw [List.flatMap_cons]
theorem dx (l m:List It):dA (l++m)=dA l++dA m:=by unfold dA;rw [List.flatMap_append]
def eg (x:List UInt8):ByteArray:=⟨x.toArray⟩
theorem bN (x:List UInt8):bytes (eg x)=x:=by unfold bytes eg;exact List.toList_toArray ..
theorem cD {k:Int} {ps:List (Nd→Bool)} {n:Nd} (h:bQ k ps n=true):∃ l a,n=.mk k (⟨#[]⟩:BA) l a∧aH ps l=true:=by obtain ⟨k',t,l,a⟩:=n;unfold bQ at h;rw [Bool.and_eq_true,Bool.and_eq_true,decide_eq_true_eq,decide_eq_true_eq] at h;obtain ⟨rfl,rfl,h⟩:=h;exact ⟨l,a,rfl,h⟩
theorem aM {k:Int} {ps:List (Nd→Bool)} {so:ByteArray→Bool} {n:Nd} (D:k≠37) (h:bQ k ps (aq so n)=true):∃ t l a,n=.mk k t l a∧so t=true∧aH ps l=true:=by
 obtain ⟨k',t,l,a⟩:=n;unfold aq at h;split at h
 ·rename_i hs;obtain ⟨l',a',e,h⟩:=cD h;injection e with e1 _ e3 _;exact ⟨t,l,a,by rw [show k'=k from e1],hs,by rw [show l=l' from e3];exact h⟩
 ·obtain ⟨l',a',e,_⟩:=cD h;injection e with e1;exact absurd e1.symm D
theorem ec {p:Nd→Bool} {l:List Nd} (h:aH [p] l=true):∃ x,l=[x]∧p x=true:=by
 rcases l with _ | ⟨x,_ | ⟨y,l⟩⟩
 ·cases h
 ·exact ⟨x,rfl,by simpa [aH] using h⟩
 ·simp [aH] at h
theorem il {p q:Nd→Bool} {l:List Nd} (h:aH [p,q] l=true):∃ x y,l=[x,y]∧p x=true∧q y=true:=by
 rcases l with _ | ⟨x,_ | ⟨y,_ | ⟨z,l⟩⟩⟩
 ·cases h
 ·simp [aH] at h
 ·exact ⟨x,y,rfl,by simpa [aH] using h⟩
 ·simp [aH] at h
theorem AU {p q u:Nd→Bool} {l:List Nd} (h:aH [p,q,u] l=true):∃ x y z,l=[x,y,z]∧p x=true∧q y=true∧u z=true:=by
 rcases l with _ | ⟨x,_ | ⟨y,_ | ⟨z,_ | ⟨w,l⟩⟩⟩⟩
 ·cases h
 ·simp [aH] at h
 ·simp [aH] at h
 ·exact ⟨x,y,z,rfl,by simpa [aH] using h⟩
 ·simp [aH] at h
theorem Gz {p q u v:Nd→Bool} {l:List Nd} (h:aH [p,q,u,v] l=true):∃ x y z w,l=[x,y,z,w]∧p x=true∧q y=true∧u z=true∧v w=true:=by
 rcases l with _ | ⟨x,_ | ⟨y,_ | ⟨z,_ | ⟨w,_ | ⟨k,l⟩⟩⟩⟩⟩
 ·cases h
 ·simp [aH] at h
 ·simp [aH] at h
 ·simp [aH] at h
 ·exact ⟨x,y,z,w,rfl,by simpa [aH] using h⟩
 ·simp [aH] at h
theorem ce {n:Nd} (h:ag n=true):∃ a,n=.mk 0 (⟨#[]⟩:BA) [] a:=by obtain ⟨k,t,l,a⟩:=n;unfold ag at h;rw [Bool.and_eq_true,Bool.and_eq_true,decide_eq_true_eq,decide_eq_true_eq,decide_eq_true_eq] at h;obtain ⟨rfl,rfl,h⟩:=h;have h:l.length=0:=h;rw [List.eq_nil_of_length_eq_zero h];exact ⟨a,rfl⟩
theorem wA {F:bj} {so:ByteArray→Bool} {n:Nd} (h:ep F so n=true):∃ ps a1 res a,n=.mk 12 (⟨#[]⟩:BA) [.mk 6 (⟨#[]⟩:BA) ps a1,res] a∧ps.all (dI F so)=true∧(ag res=true∨F.typ res=true):=by obtain ⟨l,a,rfl,h⟩:=cD h;obtain ⟨x,y,rfl,D,I⟩:=il h;obtain ⟨k,t,ps,a1⟩:=x;unfold eP at D;rw [Bool.and_eq_true,Bool.and_eq_true,decide_eq_true_eq,decide_eq_true_eq] at D;obtain ⟨rfl,rfl,D⟩:=D;unfold bI at I;rw [Bool.or_eq_true] at I;exact ⟨ps,a1,y,a,rfl,D,I⟩
theorem typ_kind {d:Nat} {n:Nd} (h:(aa d).typ n=true):n.kind=10∨n.kind=11∨n.kind=12:=by
 cases d with
 | zero=>cases h
 | succ d=>
  have h:dg (aa d) n=true:=h;unfold dg at h;split at h
  ·exact .inl ‹_›
  ·split at h
   ·exact .inr (.inl ‹_›)
   ·split at h
    ·exact .inr (.inr ‹_›)
    ·cases h
theorem sJ {p:Nd→Bool} {n:Nd} (h:eP p n=true):∃ l a,n=.mk 6 (⟨#[]⟩:BA) l a∧l.all p=true:=by obtain ⟨k,t,l,a⟩:=n;unfold eP at h;rw [Bool.and_eq_true,Bool.and_eq_true,decide_eq_true_eq,decide_eq_true_eq] at h;obtain ⟨J,D,I⟩:=h;obtain rfl:k=6:=J;obtain rfl:t=(⟨#[]⟩:BA):=D;exact ⟨l,a,rfl,I⟩
def cF (b:UInt8):It:=.tok 6 [b]
def nK (x:ByteArray):It:=.tok 6 (bytes x)
def fB (x:ByteArray):It:=.tok 2 (bytes x)
def ik (x:ByteArray):It:=.tok 1 (bytes x)
def aY:It:=.gap 32
def bH (s:List It):List (List It)→List It
 | []=>[]
 | [x]=>x
 | x::y::r=>x++(s++bH s (y::r))
def bo:List It:=[cF 44,aY]
abbrev aJ (n:Nd) (i:Nat):Nd:=n.kids.getD i eG
def i6 (n:Nat):List It:=List.replicate n (.gap 9)
def rp (n:Nat):UInt8:=UInt8.ofNat (if n<10 then 48+n else 87+n)
def br (b:UInt8):List UInt8:=
 if b=34 then [92,34] else if b=92 then [92,92] else if b=10 then [92,110] else if b=9 then [92,116]
 else if 32≤b.toNat∧b.toNat≤126 then [b] else [92,120,rp (b.toNat / 16),rp (b.toNat % 16)]
def bW (s:List UInt8):List UInt8:=34::s.flatMap br++[34]
def fC (x:ByteArray):List It:=if x=(⟨#[]⟩:BA) then [] else [ik x,aY]
def fK (f:Nd→List It) (n:Nd):List It:=
 cF 40::(bH bo ((aJ n 0).kids.map fun p=>fC p.text++f (aJ p 0))++(cF 41::(if (aJ n 1).kind=0 then [] else aY::f (aJ n 1))))
def mT (f:Nd→List It) (l:List Nd):List It:=if l=[] then [] else cF 91::(bH bo (l.map f)++[cF 93])
def lY (x:ByteArray):List It:=if x=(⟨#[]⟩:BA) then [] else [cF 126]
def iF (f:Nd→List It) (n:Nd):List It:=fB (⟨#[105,110,116,101,114,102,97,99,101]⟩:BA)::cF 123::aY::(bH [aY,cF 124,aY] (n.kids.map fun t=>lY t.text++f (aJ t 0))++[aY,cF 125])
def az:Nat→Nd→List It
 | 0,_=>[]
 | g+1,n=>
  if n.kind=11 then cF 91::cF 93::az g (aJ n 0)
  else if n.kind=12 then fB (⟨#[102,117,110,99]⟩:BA)::fK (az g) n
  else if n.kind=14 then iF (az g) n
  else ik n.text::mT (az g) n.kids
structure oX where
 typ:Nd→List It
 expr:Nd→Nat→Bool→List It
 block:Nd→Nat→List It
 stmt:Nd→Nat→Bool→List It
def ed (x:ByteArray):Nat:=if x=(⟨#[124,124]⟩:BA) then 1 else if x=(⟨#[38,38]⟩:BA) then 2 else if x=(⟨#[43]⟩:BA)∨x=(⟨#[45]⟩:BA) then 4 else if x=(⟨#[42]⟩:BA)∨x=(⟨#[47]⟩:BA)∨x=(⟨#[37]⟩:BA) then 5 else 3
section
variable (F:oX)
def aT (yes:Bool) (n:Nd) (deep:Nat) (head:Bool):List It:=if yes=true then cF 40::(F.expr n deep false++[cF 41]) else F.expr n deep head
def dO (deep:Nat) (x:Nd):List It:=if x.kind=11∨x.kind=12 then F.typ x else F.expr x deep false
def dy (n:Nd) (deep:Nat):List It:=bH bo ((n.kids.drop 1).map (dO F deep))
def dK (n x:Nd):Bool:=decide (x.kind=20)||(decide (x.kind=19)&&(decide (n.text=(⟨#[45]⟩:BA))&&decide (x.text=(⟨#[45]⟩:BA))))
def ft (n x:Nd):Bool:=decide (x.kind=20)&&decide (ed x.text<ed n.text)
def ez (n x:Nd):Bool:=decide (x.kind=20)&&decide (ed x.text≤ed n.text)
def iw (x:Nd):Bool:=decide (x.kind=19)||decide (x.kind=20)
def my (n:Nd) (deep:Nat):List It:=F.typ (aJ n 0)++(cF 123::(dy F n deep++[cF 125]))
def i7 (n:Nd) (deep:Nat) (head:Bool):List It:=
 if n.kind=16 then [.tok 4 (bytes n.text)]
 else if n.kind=17 then [.tok 5 (bW (bytes n.text))]
 else if n.kind=18 then [ik n.text]
 else if n.kind=19 then nK n.text::aT F (dK n (aJ n 0)) (aJ n 0) deep head
 else if n.kind=20 then aT F (ft n (aJ n 0)) (aJ n 0) deep head++(aY::nK n.text::aY::aT F (ez n (aJ n 1)) (aJ n 1) deep head)
 else if n.kind=21 then aT F (iw (aJ n 0)) (aJ n 0) deep head++(cF 40::(dy F n deep++[cF 41]))
 else if n.kind=22 then aT F (iw (aJ n 0)) (aJ n 0) deep head++(cF 91::(dy F n deep++[cF 93]))
 else if n.kind=23 then aT F (iw (aJ n 0)) (aJ n 0) deep head++[cF 46,ik n.text]
 else if n.kind=24 then if head=true∧(aJ n 0).kind=10 then cF 40::(my F n deep++[cF 41]) else my F n deep
 else fB (⟨#[102,117,110,99]⟩:BA)::(fK F.typ (aJ n 0)++(aY::F.block (aJ n 1) deep))
def nz (n:Nd) (deep:Nat):List It:=cF 123::.gap 10::(n.kids.flatMap (fun x=>i6 (deep+1)++(F.stmt x (deep+1) false++[.nl]))++(i6 deep++[cF 125]))
def nW (n:Nd) (deep:Nat):List It:=
 fB (⟨#[118,97,114]⟩:BA)::aY::ik n.text::((if (aJ n 0).kind=0 then [] else aY::F.typ (aJ n 0))++(if (aJ n 1).kind=0 then [] else aY::cF 61::aY::F.expr (aJ n 1) deep false))
def fi (x:ByteArray):List It:=
 if x=(⟨#[]⟩:BA) then [] else
 (if (eK x).2.2=true then [.tok 1 (eK x).1,cF 44,aY,.tok 1 (eK x).2.1] else [.tok 1 (eK x).1])++[aY,nK (⟨#[58,61]⟩:BA),aY]
def ee (n:Nd) (deep:Nat) (head:Bool):List It:=
 if n.kind=26 then ik n.text::aY::nK (⟨#[58,61]⟩:BA)::aY::F.expr (aJ n 0) deep head
 else if n.kind=27 then F.expr (aJ n 0) deep head++(aY::cF 61::aY::F.expr (aJ n 1) deep head)
 else if n.kind=28 then F.expr (aJ n 0) deep head++[nK n.text]
 else F.expr (aJ n 0) deep head
def rq (n:Nd) (deep:Nat):List It:=
 if (aJ n 0).kind≠0∨(aJ n 2).kind≠0 then
  (if (aJ n 0).kind≠0 then ee F (aJ n 0) deep true else [])++(cF 59::aY::((if (aJ n 1).kind≠0 then F.expr (aJ n 1) deep true else [])++(cF 59::aY::(if (aJ n 2).kind≠0 then ee F (aJ n 2) deep true++[aY] else []))))
 else if (aJ n 1).kind≠0 then F.expr (aJ n 1) deep true++[aY] else []
def dF (n:Nd) (deep:Nat) (head:Bool):List It:=
 if n.kind=5 then nW F n deep
 else if n.kind=26 then ik n.text::aY::nK (⟨#[58,61]⟩:BA)::aY::F.expr (aJ n 0) deep head
 else if n.kind=27 then F.expr (aJ n 0) deep head++(aY::cF 61::aY::F.expr (aJ n 1) deep head)
 else if n.kind=28 then F.expr (aJ n 0) deep head++[nK n.text]
 else if n.kind=29 then F.expr (aJ n 0) deep head
 else if n.kind=30 then fB (⟨#[105,102]⟩:BA)::aY::(F.expr (aJ n 0) deep true++(aY::(F.block (aJ n 1) deep++(if (aJ n 2).kind=0 then [] else aY::fB (⟨#[101,108,115,101]⟩:BA)::aY::F.stmt (aJ n 2) deep false))))
 else if n.kind=31 then fB (⟨#[102,111,114]⟩:BA)::aY::(rq F n deep++F.block (aJ n 3) deep)
 else if n.kind=32 then fB (⟨#[102,111,114]⟩:BA)::aY::(fi n.text++(fB (⟨#[114,97,110,103,101]⟩:BA)::aY::(F.expr (aJ n 0) deep true++(aY::F.block (aJ n 1) deep))))
 else if n.kind=33 then fB (⟨#[114,101,116,117,114,110]⟩:BA)::(if (aJ n 0).kind=0 then [] else aY::F.expr (aJ n 0) deep false)
 else if n.kind=34 then [fB (⟨#[98,114,101,97,107]⟩:BA)]
 else if n.kind=35 then [fB (⟨#[99,111,110,116,105,110,117,101]⟩:BA)]
 else nz F n deep
def fD (n:Nd):List It:=if n.kind=14 then iF F.typ n else F.typ n
def dz (p:Nd):List It:=ik p.text::aY::fD F (aJ p 0)
def fL (n:Nd):List It:=mT (dz F) n.kids
def cE (f:Nd):List It:=.gap 9::ik f.text::aY::(F.typ (aJ f 0)++[.nl])
def nX (n:Nd):List It:=fB (⟨#[115,116,114,117,99,116]⟩:BA)::aY::cF 123::.gap 10::(n.kids.flatMap (cE F)++[cF 125])
def iG (n:Nd):List It:=
 if n.kind=2 then fB (⟨#[102,117,110,99]⟩:BA)::aY::ik n.text::(fL F (aJ n 0)++(fK F.typ (aJ n 1)++(aY::F.block (aJ n 2) 0)))
 else if n.kind=3 then fB (⟨#[116,121,112,101]⟩:BA)::aY::ik n.text::(fL F (aJ n 0)++(aY::(if (aJ n 1).kind=13 then nX F (aJ n 1) else fD F (aJ n 1))))
 else if n.kind=4 then fB (⟨#[116,121,112,101]⟩:BA)::aY::ik n.text::(fL F (aJ n 0)++(aY::cF 61::aY::F.typ (aJ n 1)))
 else nW F n 0
def f9 (n:Nd):List It:=fB (⟨#[112,97,99,107,97,103,101]⟩:BA)::aY::ik n.text::.nl::n.kids.flatMap fun d=>.gap 10::(iG F d++[.nl])
end
theorem sK (F:oX) {n:Nd} (D:26≤n.kind∧n.kind≤29) (deep:Nat) (head:Bool):dF F n deep head=ee F n deep head:=by
 unfold dF ee;rw [if_neg (by omega)];split
 ·rfl
 ·split
  ·rfl
  ·split
   ·rfl
   ·rw [if_pos (by omega)]
def an:Nat→oX
 | 0=>⟨fun _=>[],fun _ _ _=>[],fun _ _=>[],fun _ _ _=>[]⟩
 | g+1=>⟨az (g+1),i7 (an g),nz (an g),dF (an g)⟩
theorem wB {row x:List UInt8} (h:contains (32::row++[32]) (32::x++[32])=true):∃ k,k≤(32::row++[32]).length∧(32::x++[32]).isPrefixOf ((32::row++[32]).drop k)=true:=by
 unfold contains at h;rw [decide_eq_true_eq] at h;rcases index_spec (32::row++[32]) (32::x++[32]) with ⟨J,_⟩ | ⟨i,_,I,D,_⟩
 ·omega
 ·exact ⟨i,I,D⟩
theorem rt {p l:List UInt8} (h:p.isPrefixOf l=true):l.take p.length=p:=by rw [List.isPrefixOf_iff_prefix] at h;exact (List.prefix_iff_eq_take.1 h).symm
theorem CH:(32::bytes mO++[32]).length=17∧(32::bytes nf++[32]).length=64:=by decide +kernel
theorem mU (row t:ByteArray) (n:Nat):ir row t n=contains (32::bytes row++[32]) (32::(bytes t).take n++[32]):=by unfold ir;(have I:((⟨#[32]⟩++row++⟨#[32]⟩:ByteArray)).data.toList=32::bytes row++[32]:=by show bytes _=_;rw [cS,cS];rfl);(have D:((⟨#[32]⟩++t.extract 0 n++⟨#[32]⟩:ByteArray)).data.toList=32::(bytes t).take n++[32]:=by show bytes _=_;rw [cS,cS,fr];simp [bytes]);rw [I,D]
def pE (r:List UInt8):Nat:=
 if 3≤r.length∧contains (32::bytes mO++[32]) (32::r.take 3++[32])=true then 3
 else if 2≤r.length∧contains (32::bytes nf++[32]) (32::r.take 2++[32])=true then 2
 else if 1≤r.length∧contains (32::bytes oN++[32]) (32::r.take 1++[32])=true then 1
 else 0
theorem wC (s:ByteArray) (i:Nat):bytes (s.extract i s.size)=(bytes s).drop i:=by rw [fr];exact List.take_of_length_le (by rw [List.length_drop,ck];omega)
theorem sL (s:ByteArray) (i:Nat):cQ s i=pE ((bytes s).drop i):=by unfold cQ pE;rw [mU,mU,mU,wC,List.length_drop,ck]
section
variable {s s':ByteArray} {k:Nat}
variable {base:List cK} (hb:cP base=false)
include hb
end
theorem oI (s:ByteArray) (i:Nat):ab s i=((bytes s).getD i 0).toNat:=rfl
section
variable {s s':ByteArray} {k:Nat}
end
theorem lZ (s:ByteArray):∀ (g i:Nat),(∀ j,i≤j→j<s.size→0<ab s j∧ab s j<128)→ew s g i=none
 | 0,_,_=>rfl
 | g+1,i,h=>by
  rw [ew];split
  ·rename_i D;obtain ⟨J,I⟩:=h i (Nat.le_refl _) D;rw [f7 s i I,if_neg (by simp only;omega)];exact lZ s g (i+1) fun j hj hl=>h j (by omega) hl
  ·rfl
theorem AV (p:Int):lO ⟨6,⟨#[10]⟩,p⟩=false:=by show lO ⟨6,⟨#[10]⟩,0⟩=false;decide +kernel
theorem mF (l:List cK) (t:cK):cP (l++[t])=lO t:=by unfold cP;rw [List.getLast?_concat]
theorem CI {l:List cK} (h:cP l=false) (p:Int):dc l p=l:=by unfold dc;rw [h];rfl
theorem nY {s:ByteArray} {g i j:Nat} {l l':List cK} (D:i<s.size) (h:dN s i l=.go j l'):dw s (g+1) i l=dw s g j l':=by rw [dw,if_pos D,h]
theorem rX {s:ByteArray} {i:Nat} {l:List cK} (I:¬ (i=0∧hasPrefix (bytes s) [239,187,191]=true)) (D:ab s i=10):dN s i l=.go (i+1) (dc l i):=by unfold dN;rw [if_neg I,if_pos D]
theorem wD {s:ByteArray} {i:Nat} {l:List cK} (I:¬ (i=0∧hasPrefix (bytes s) [239,187,191]=true)) (D:ab s i=32):dN s i l=.go (i+1) l:=by unfold dN;rw [if_neg I,if_neg (by omega),if_pos (.inl D)]
section
variable {c:UInt8} (s:ByteArray)
variable (hs:s.size≤1500) (h9:0<s.size→ab s 0≠239)
include hs h9
end
end
end Go.Proofs.YtiebcdeafofgdaaGreatDoor
