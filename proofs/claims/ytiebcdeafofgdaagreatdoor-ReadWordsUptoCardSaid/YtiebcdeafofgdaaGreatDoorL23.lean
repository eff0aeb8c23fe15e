/-
  Parts of the proof: Pwe Pwf Pwa Pwb Pwh Pwg Pwi Pwj. By an AI agent.
-/
import Derived.Test.YtiebcdeafofgdaaGreatDoorL22
import Derived.Test.YtiebcdeafofgdaaGreatDoorL00
import Derived.Test.YtiebcdeafofgdaaGreatDoorL19
import Derived.Test.YtiebcdeafofgdaaGreatDoorL04
import Derived.Test.YtiebcdeafofgdaaGreatDoorL01
import Derived.BigQuiet
import Derived.Deep.RegionHeld3
import Derived.Deep.DeepCutAuto
set_option maxRecDepth 100000
set_option maxHeartbeats 8000000
namespace Go.Proofs.YtiebcdeafofgdaaGreatDoor
section
open Go.RowKit Go.Lib Go.Proofs
attribute [local go_sem ↓] Go.wp_at_zero Go.wp_at_succ
theorem Dm {x:ByteArray} (h:x≠(⟨#[]⟩:BA)):0<x.size:=by
 rcases Nat.eq_zero_or_pos x.size with D | D
 ·exact absurd (ByteArray.size_eq_zero_iff.1 D) h
 ·exact D
theorem pX {d:Nat} {n:Nd} (h:(aa (d+1)).typ n=true) :
  (∃ t l p,n=.mk 10 t l p∧aw t=true∧l.all (aa d).typ=true)∨(∃ x p,n=.mk 11 (⟨#[]⟩:BA) [x] p∧(aa d).typ x=true)∨(n.kind=12∧ep (aa d) dL n=true):=by
 have h:dg (aa d) n=true:=h;unfold dg at h;split at h
 ·rename_i I;rw [Bool.and_eq_true] at h;exact .inl ⟨n.text,n.kids,n.pos,by rw [←I];exact n.eta,h⟩
 ·split at h
  ·rename_i N I;unfold bQ at h;rw [Bool.and_eq_true,Bool.and_eq_true,decide_eq_true_eq,decide_eq_true_eq] at h;obtain ⟨-,D,M⟩:=h;obtain ⟨x,J,K⟩:=ec M;exact .inr (.inl ⟨x,n.pos,by rw [←I,←D,←J];exact n.eta,K⟩)
  ·split at h
   ·rename_i D;exact .inr (.inr ⟨D,h⟩)
   ·cases h
theorem r8 (g:Nat) (t:ByteArray) (l:List Nd) (p:Int):tx (az (g+1) (.mk 10 t l p))=t++tx (mT (az g) l):=by show tx (ik t::mT (az g) l)=_;rw [aj,lH]
theorem Dn (f:Nd→List It) (l:List Nd):tx (mT f l)=if l=[] then (⟨#[]⟩:BA) else (⟨#[91]⟩:BA)++(tx (bH bo (l.map f))++(⟨#[93]⟩:BA)):=by
 unfold mT;split
 ·rfl
 ·rw [aj,aQ,y6,y6]
theorem r9 (g:Nat) (x:Nd) (p:Int):tx (az (g+1) (.mk 11 (⟨#[]⟩:BA) [x] p))=(⟨#[91,93]⟩:BA)++tx (az g x):=by show tx (cF 91::cF 93::az g x)=_;rw [aj,aj (cF 93),←ah];rfl
theorem sa (g:Nat) {n:Nd} (h:n.kind=12):tx (az (g+1) n)=(⟨#[102,117,110,99]⟩:BA)++tx (fK (az g) n):=by (have e:az (g+1) n=fB (⟨#[102,117,110,99]⟩:BA)::fK (az g) n:=by unfold az;rw [if_neg (by omega),if_pos h]);rw [e,aj,ux]
theorem y8 {d:Nat} {n:Nd} (h:(aa d).typ n=true):0<(tx (az d n)).size:=by
 cases d with
 | zero=>cases h
 | succ d=>
  rcases pX h with ⟨t,l,p,rfl,D,-⟩ | ⟨x,p,rfl,-⟩ | ⟨I,-⟩
  ·(have:t≠(⟨#[]⟩:BA):=by unfold aw cz at D;simp only [Bool.and_eq_true,decide_eq_true_eq] at D;exact D.2.2.1);have:=Dm this;rw [r8,ByteArray.size_append];omega
  ·rw [r9,ByteArray.size_append];show 0<2+_;omega
  ·rw [sa d I,ByteArray.size_append];show 0<4+_;omega
theorem Fc {d:Nat} : ∀ {l:List Nd},l.all (aa d).typ=true→l≠[]→0<(tx (bH bo (l.map (az d)))).size
 | [],_,h=>absurd rfl h
 | [x],h,_=>y8 (d:=d) (List.all_eq_true.1 h x (by simp))
 | x::y::l,h,_=>by have:=y8 (d:=d) (List.all_eq_true.1 h x (by simp));show 0<(tx (az d x++_)).size;rw [aQ,ByteArray.size_append];omega
theorem eY:∀ d,Fb 37 (aa d).typ (az d):=by
 intro d;induction d with
 | zero=>exact fun _ _ _ _ h=>by cases h
 | succ d ih=>
  intro v n w hv hn hM;have gh:=hid ih;rcases pX hn with ⟨t,l,p,rfl,ht,hl⟩ | ⟨x,p,rfl,hx⟩ | ⟨hk,hs⟩
  ·have HL:=hid (List.all_eq_true.1 hl);have q:=hid (Fc (d:=d) hl);have M:=hid (r8 d t l p);have I:=hid (Dn (az d) l);rw [M.out,ByteArray.size_append] at hM;obtain ⟨A,cp,rfl,hC⟩:=hv.toC;have ge:=ms bo (by decide) (az d) l;have hS:(tx (bH bo (l.map (az d)))).size≤10000000000000000:=by
    rw [I.out] at hM;split at hM
    ·rename_i h;subst h;exact Nat.zero_le _
    ·rw [ByteArray.size_append,ByteArray.size_append] at hM;omega
   have gm:Hid (ax w (.agg #[.int .i64 10,.string t,.slice A l.length cp,.int .i64 p]) (.mk 10 t l p)):=hid hv;have hB:=(ae w #[.int .i64 10,.string t,.slice A l.length cp,.int .i64 p]).1;have ga:=(ae w #[.int .i64 10,.string t,.slice A l.length cp,.int .i64 p]).2;clear hn hl hC hv ih ht;simp only [Nd.kind_mk,Nd.text_mk,Nd.kids_mk,Nd.pos_mk];(go_enter Tryz.func37,Tryz.ntmps37);(go_wp2_with fail);generalize w.alloc (.cells #[.int .i64 10,.string t,.slice A l.length cp,.int .i64 p] 24)=w0 at *;go_loopg [3,5] l.length (fun k u3 u5 wr=>∃ i:Nat,i≤l.length∧l.length-i≤k∧u5=.int .i64 (i:Int)∧u3=.string (tx (bH bo ((l.take i).map (az d))))∧Below w0.heap.size w0 wr)
   case atStart=>exact ⟨0,Nat.zero_le _,by omega,rfl,rfl,Below.refl _ _⟩
   case round=>
    obtain ⟨i,hi,hk,rfl,rfl,K⟩:=hrel;have gj:=fv bo (az d) l i hi;obtain ⟨n0,n1,n2,n3,-,-,-,-⟩:=ac (ga.bl K);by_cases O:i<l.length
    ·(have gd:(i:Int)<(l.length:Int):=by omega);(have h0:(0:Int)≤(i:Int):=by omega);obtain ⟨bp,op,A2,c2,gl,N⟩:=cH (ai.below gm.out (am hB K)) i O;simp only [Nd.kids_mk] at N;subst gl;have D:=hid (og bo (az d) l i O);have u:=fv bo (az d) l (i+1) O;rw [D.out,ByteArray.size_append,ByteArray.size_append] at u;have HX:=hid (HL.out _ (List.getElem_mem O));generalize l[i]=x at *;have gb:=hid (gh.out _ x wr N.2.2.2.2 HX.out (by omega));obtain ⟨p0,p1,p2,p3,-⟩:=N;generalize tx (bH bo ((l.take i).map (az d)))=S at *;generalize tx (az d x)=X at *;rcases Nat.eq_zero_or_pos i with j | j;(have yk:¬ (0:Int)<(i:Int):=by omega);rw [mX bo j] at D u;simp only [fu] at D
     rotate_left
     (have yk:(0:Int)<(i:Int):=by omega);rw [mY bo j,oe] at D u
     rotate_left
     all_goals
      clear j;(go_wp2_with fail);refine gb.out.mono ?_;rintro e w3 ⟨rfl,J⟩;clear p0 p1 p2 p3 n0 n1 n2 n3;(go_wp2_with fail);go_roundg (l.length-(i+1))
      case measure=>omega
      case rel=>exact ⟨i+1,by omega,Nat.le_refl _,by go_num,by first | exact congrArg Value.string D.out.symm | (rw [D.out];simp only [ah]),am K J⟩
    ·(have gd:¬ (i:Int)<(l.length:Int):=by omega);have D:=hid (show tx (bH bo ((l.take i).map (az d)))=tx (bH bo (l.map (az d))) by rw [List.take_of_length_le (by omega)]);rw [←D.out] at I hS gj ge q;generalize tx (bH bo ((l.take i).map (az d)))=S at *;by_cases U:l=[]
     ·subst U;rw [if_pos rfl] at I;rw [I.out] at M;have gn:S=(⟨#[]⟩:BA):=D.out;subst gn;(go_wp2_with fail);go_ret;exact ⟨by rw [M.out];rfl,am hB K⟩
     ·have N:=q.out U;(have gp:S.toList.isEmpty=false:=by rw [af,decide_eq_false_iff_not];rintro rfl;exact absurd N (by decide));rw [if_neg U] at I;rw [I.out] at M hM;rw [ByteArray.size_append,ByteArray.size_append] at hM;clear U;(go_wp2_with fail);go_ret;exact ⟨by rw [M.out];simp only [ah];rfl,am hB K⟩
  ·have M:=hid (r9 d x p);rw [M.out,ByteArray.size_append] at hM;have HX:=hid hx;obtain ⟨A,cp,rfl,hC⟩:=hv.toC;have gg:ax w (.agg #[.int .i64 11,.string (⟨#[]⟩:BA),.slice A 1 cp,.int .i64 p]) (.mk 11 (⟨#[]⟩:BA) [x] p):=hv;have hB:=(ae w #[.int .i64 11,.string (⟨#[]⟩:BA),.slice A 1 cp,.int .i64 p]).1;obtain ⟨bp,op,A2,c2,rfl,N⟩:=cH (ai.below gg hB) 0 (by simp);simp only [Nd.kids_mk,List.getElem_cons_zero,Nat.zero_mul,Nat.add_zero] at N;have gb:=hid (gh.out _ x _ N.2.2.2.2 HX.out (by omega));obtain ⟨p0,p1,p2,p3,-⟩:=N;clear hn hC hv gg ih hx;generalize tx (az d x)=X at *;(go_enter Tryz.func37,Tryz.ntmps37);(go_wp2_with fail);refine gb.out.mono ?_;rintro e w3 ⟨rfl,J⟩;(go_wp2_with fail);go_ret;exact ⟨by rw [M.out];rfl,am hB J⟩
  ·have M:=hid (sa d hk);rw [M.out,ByteArray.size_append] at hM;obtain ⟨A,cp,rfl,hC⟩:=hv.toC;have hB:=(ae w #[.int .i64 n.kind,.string n.text,.slice A n.kids.length cp,.int .i64 n.pos]).1;have ga:=(ae w #[.int .i64 n.kind,.string n.text,.slice A n.kids.length cp,.int .i64 n.pos]).2;have gi:=hid (pW d ih _ n _ (ai.below hv hB) hs (by omega));obtain ⟨x0,x1,x2,x3,-,-,-,-⟩:=ac ga;generalize tx (fK (az d) n)=X at *;clear hn hC hv ih hs;rw [hk] at gi x0 hB ⊢;(go_enter Tryz.func37,Tryz.ntmps37);(go_wp2_with fail);refine gi.out.mono ?_;rintro e w3 ⟨rfl,J⟩;(go_wp2_with fail);go_ret;exact ⟨by rw [M.out];rfl,am hB J⟩
def nF:List It:=[aY,cF 124,aY]
def lI (f:Nd→List It) (t:Nd):List It:=lY t.text++f (aJ t 0)
theorem Do (f:Nd→List It) (n:Nd):tx (iF f n)=(⟨#[105,110,116,101,114,102,97,99,101,123,32]⟩:BA)++(tx (bH nF (n.kids.map (lI f)))++(⟨#[32,125]⟩:BA)):=by show tx (fB (⟨#[105,110,116,101,114,102,97,99,101]⟩:BA)::cF 123::aY::(bH nF (n.kids.map (lI f))++[aY,cF 125]))=_;rw [aj,aj (cF 123),aj aY,aQ,ux,←ah,←ah];rfl
theorem pY {F:bj} {n:Nd} (h:aV F n=true):∃ l p,n=.mk 14 (⟨#[]⟩:BA) l p∧l.all (f5 F)=true:=by obtain ⟨k,t,l,p⟩:=n;unfold aV at h;rw [Bool.and_eq_true,Bool.and_eq_true,Bool.and_eq_true,decide_eq_true_eq,decide_eq_true_eq] at h;obtain ⟨rfl,rfl,-,h⟩:=h;exact ⟨l,p,rfl,h⟩
theorem Fd {F:bj} {n:Nd} (h:f5 F n=true):∃ t x p,n=.mk 15 t [x] p∧(t=(⟨#[]⟩:BA)∨t=(⟨#[126]⟩:BA))∧F.typ x=true:=by obtain ⟨t,l,a,rfl,hs,I⟩:=aM (by decide) h;obtain ⟨x,rfl,D⟩:=ec I;unfold eQ at hs;rw [Bool.or_eq_true,decide_eq_true_eq,decide_eq_true_eq] at hs;exact ⟨t,x,a,rfl,hs,D⟩
theorem yb (d:Nat):Fb 37 (aV (aa d)) (iF (az d)):=by
 intro v n w hv hn hM;have gj:=hid (eY d);obtain ⟨l,p,rfl,hl⟩:=pY hn;have HL:=hid (List.all_eq_true.1 hl);have HR:=hid (Do (az d) (.mk 14 (⟨#[]⟩:BA) l p));rw [HR.out,ByteArray.size_append,ByteArray.size_append] at hM;simp only [Nd.kids_mk] at hM HR;obtain ⟨A,cp,rfl,hC⟩:=hv.toC;have j:=ms nF (by decide) (lI (az d)) l;have gi:Hid (ax w (.agg #[.int .i64 14,.string (⟨#[]⟩:BA),.slice A l.length cp,.int .i64 p]) (.mk 14 (⟨#[]⟩:BA) l p)):=hid hv;have hB:=(ae w #[.int .i64 14,.string (⟨#[]⟩:BA),.slice A l.length cp,.int .i64 p]).1;have q:=(ae w #[.int .i64 14,.string (⟨#[]⟩:BA),.slice A l.length cp,.int .i64 p]).2;clear hn hl hC hv;simp only [Nd.kind_mk,Nd.text_mk,Nd.kids_mk,Nd.pos_mk];(go_enter Tryz.func37,Tryz.ntmps37);(go_wp2_with fail);generalize w.alloc (.cells #[.int .i64 14,.string (⟨#[]⟩:BA),.slice A l.length cp,.int .i64 p] 24)=w0 at *;go_loopg [3,4] l.length (fun k u3 u4 wr=>∃ i:Nat,i≤l.length∧l.length-i≤k∧u4=.int .i64 (i:Int)∧u3=.string (tx (bH nF ((l.take i).map (lI (az d)))))∧Below w0.heap.size w0 wr)
 case atStart=>exact ⟨0,Nat.zero_le _,by omega,rfl,rfl,Below.refl _ _⟩
 case round=>
  obtain ⟨i,hi,hk,rfl,rfl,K⟩:=hrel;have gd:=fv nF (lI (az d)) l i hi;by_cases M:i<l.length
  ·(have h:(i:Int)<(l.length:Int):=by omega);(have h0:(0:Int)≤(i:Int):=by omega);obtain ⟨n0,n1,n2,n3,-,-,-,-⟩:=ac (q.bl K);obtain ⟨bp,op,A2,c2,gh,O⟩:=cH (ai.below gi.out (am hB K)) i M;simp only [Nd.kids_mk] at O;subst gh;have D:=hid (og nF (lI (az d)) l i M);have J:=fv nF (lI (az d)) l (i+1) M;rw [D.out,ByteArray.size_append,ByteArray.size_append] at J;have gb:=hid (Fd (HL.out _ (List.getElem_mem M)));generalize l[i]=q1 at *;obtain ⟨t,x,pp,rfl,U,hx⟩:=gb.out;have HX:=hid hx;have ga:=hid (show tx (lI (az d) (.mk 15 t [x] pp))=t++tx (az d x) by show tx (lY t++az d x)=_;rw [aQ,G0 U]);rw [ga.out] at D J;rw [ByteArray.size_append] at J;obtain ⟨bx,ox,A3,c3,rfl,I⟩:=cH O.2.2.2.2 0 (by simp);simp only [Nd.kids_mk,List.getElem_cons_zero,Nat.zero_mul,Nat.add_zero] at I;have u:=hid (fun m:Wd (Below wr.heap.size wr)=>gj.out _ x m.wd (I.below m.ok).2.2.2.2 HX.out (by omega));have k0:=fun m:Wd (Below wr.heap.size wr)=>(O.below m.ok).1;have k1:=fun m:Wd (Below wr.heap.size wr)=>(O.below m.ok).2.1;have k2:=fun m:Wd (Below wr.heap.size wr)=>(O.below m.ok).2.2.1;have k3:=fun m:Wd (Below wr.heap.size wr)=>(O.below m.ok).2.2.2.1;have m0:=fun m:Wd (Below wr.heap.size wr)=>(I.below m.ok).1;have m1:=fun m:Wd (Below wr.heap.size wr)=>(I.below m.ok).2.1;have m2:=fun m:Wd (Below wr.heap.size wr)=>(I.below m.ok).2.2.1;have m3:=fun m:Wd (Below wr.heap.size wr)=>(I.below m.ok).2.2.2.1;have kx:∀ m:Wd (Below wr.heap.size wr),m.wd.cell? ⟨w.heap.size,2,none⟩=some (.slice (some ⟨bp,op,none⟩) l.length cp):=fun m=>(m.ok.cell (World.block_lt_of_cell? wr _ n2)).trans n2;simp only [Nd.kind_mk,Nd.text_mk,Nd.kids_mk,Nd.pos_mk] at k0 k1 k2 k3;clear gb hx U ga O I;generalize tx (bH nF ((l.take i).map (lI (az d))))=S at *;generalize tx (az d x)=X at *;rcases Nat.eq_zero_or_pos i with N | N;(have ge:¬ (0:Int)<(i:Int):=by omega);rw [mX nF N] at D J;simp only [fu] at D
   rotate_left
   (have ge:(0:Int)<(i:Int):=by omega);rw [mY nF N,show tx nF=(⟨#[32,124,32]⟩:BA) from rfl] at D J
   rotate_left
   all_goals
    clear N;(go_wp2_with fail);refine dl wr ?_;(repeat (go_big_quiet_step ((go_at_call 37;rename_i m;refine (u.out m).mono ?_;rintro e w' ⟨rfl,hb⟩;exact ⟨rfl,⟨w',am m.ok hb⟩,rfl⟩))));refine wpQuiet_nil ?_;intro m;have gg:=m.ok;clear k0 k1 k2 k3 m0 m1 m2 m3 kx n0 n1 n2 n3 u;(go_wp2_with fail);go_roundg (l.length-(i+1))
    case measure=>omega
    case rel=>exact ⟨i+1,by omega,Nat.le_refl _,by go_num,by first | exact congrArg Value.string D.out.symm | (rw [D.out];simp only [ah]),am K gg⟩
  ·(have h:¬ (i:Int)<(l.length:Int):=by omega);obtain ⟨n0,n1,n2,n3,-,-,-,-⟩:=ac (q.bl K);have D:=hid (show tx (bH nF ((l.take i).map (lI (az d))))=tx (bH nF (l.map (lI (az d)))) by rw [List.take_of_length_le (by omega)]);rw [←D.out] at HR hM gd j;generalize tx (bH nF ((l.take i).map (lI (az d))))=S at *;(go_wp2_with fail);go_ret;exact ⟨by rw [HR.out];simp only [ah];rfl,am hB K⟩
theorem uA (d:Nat):Fb 37 (fun n=>(aa d).typ n||aV (aa d) n) (fD (an d)):=by
 intro v n w hv D hM;rw [Bool.or_eq_true] at D;rcases D with D | D
 ·have I:=typ_kind D;(have e:fD (an d) n=az d n:=by unfold fD;rw [if_neg (by omega),show (an d).typ n=az d n by cases d <;> rfl]);rw [e] at hM ⊢;exact eY d v n w hv D hM
 ·obtain ⟨l,p,rfl,-⟩:=pY D;(have e:fD (an d) (.mk 14 (⟨#[]⟩:BA) l p)=iF (az d) (.mk 14 (⟨#[]⟩:BA) l p):=by unfold fD;rw [if_pos (show (Nd.mk 14 (⟨#[]⟩:BA) l p).kind=14 from rfl),show (an d).typ=az d by cases d <;> rfl]);rw [e] at hM ⊢;exact yb d v _ w hv D hM
theorem oh (s:ByteArray) (w:World):Calls Tryz.prog 35 #[.string s] w fun e w'=>e=.returned (.int .i64 (ed s:Int))∧w=w':=by
 (have key:∀ x∈([(⟨#[124,124]⟩:BA),(⟨#[38,38]⟩:BA),(⟨#[43]⟩:BA),(⟨#[45]⟩:BA),(⟨#[42]⟩:BA),(⟨#[47]⟩:BA),(⟨#[37]⟩:BA)]:List ByteArray),Calls Tryz.prog 35 #[.string x] w fun e w'=>e=.returned (.int .i64 (ed x:Int))∧w=w':=by intro x U;simp only [List.mem_cons,List.not_mem_nil,or_false] at U;rcases U with rfl | rfl | rfl | rfl | rfl | rfl | rfl;all_goals (go_enter Tryz.func35,Tryz.ntmps35);(go_wp2_with fail);go_ret;exact ⟨rfl,rfl⟩);by_cases h:s∈([(⟨#[124,124]⟩:BA),(⟨#[38,38]⟩:BA),(⟨#[43]⟩:BA),(⟨#[45]⟩:BA),(⟨#[42]⟩:BA),(⟨#[47]⟩:BA),(⟨#[37]⟩:BA)]:List ByteArray)
 ·exact key s h
 ·simp only [List.mem_cons,List.not_mem_nil,or_false,not_or] at h;obtain ⟨O,N,M,K,J,I,D⟩:=h;(have j:ed s=3:=by unfold ed;rw [if_neg O,if_neg N,if_neg (by simp [M,K]),if_neg (by simp [J,I,D])]);(have k1:(s.toList==[124,124])=false:=by rw [←bq s [124,124]];exact decide_eq_false O);(have k2:(s.toList==[38,38])=false:=by rw [←bq s [38,38]];exact decide_eq_false N);(have k3:(s.toList==[43])=false:=by rw [←bq s [43]];exact decide_eq_false M);(have k4:(s.toList==[45])=false:=by rw [←bq s [45]];exact decide_eq_false K);(have k5:(s.toList==[42])=false:=by rw [←bq s [42]];exact decide_eq_false J);(have u:(s.toList==[47])=false:=by rw [←bq s [47]];exact decide_eq_false I);(have q:(s.toList==[37])=false:=by rw [←bq s [37]];exact decide_eq_false D);clear O N M K J I D key;rw [j];(go_enter Tryz.func35,Tryz.ntmps35);(go_wp2_with fail);go_ret;exact ⟨rfl,rfl⟩
def pZ (k:Nat):ByteArray:=eg (dA (i6 k))
theorem ol (k:Nat):(pZ k).size=k:=by
 rw [←ck];unfold pZ;rw [bN];induction k with
 | zero=>rfl
 | succ k ih=>show ([9]++dA (i6 k)).length=k+1;rw [List.length_append,ih];simp [Nat.add_comm]
theorem Bm (k:Nat):pZ k++(⟨#[9]⟩:BA)=pZ (k+1):=by
 apply cj;rw [cS];unfold pZ;rw [bN,bN];induction k with
 | zero=>rfl
 | succ k ih=>show ([9]++dA (i6 k))++_=[9]++dA (i6 (k+1));rw [List.append_assoc,ih]
theorem uB (k:Nat) (J:k≤1000) (w:World):Calls Tryz.prog 68 #[.int .i64 (k:Int)] w fun e w'=>e=.returned (.string (pZ k))∧Below w.heap.size w w':=by
 (go_enter Tryz.func68,Tryz.ntmps68);(go_wp2_with fail);go_loopg [3,4] k (fun g u3 u4 wr=>∃ i:Nat,i≤k∧k-i≤g∧u4=.int .i64 (i:Int)∧u3=.string (pZ i)∧Below w.heap.size w wr)
 case atStart=>exact ⟨0,Nat.zero_le _,by omega,rfl,rfl,Below.refl _ _⟩
 case round=>
  obtain ⟨i,K,M,rfl,rfl,hB⟩:=hrel;by_cases I:i<k
  ·(have D:(i:Int)<(k:Int):=by omega);(have N:(0:Int)≤(i:Int):=by omega);have hs:=ol i;(go_wp2_with fail);go_roundg (k-(i+1))
   case measure=>omega
   case rel=>exact ⟨i+1,by omega,by omega,by go_num,by rw [←Bm],hB⟩
  ·(have D:¬ (i:Int)<(k:Int):=by omega);(obtain rfl:i=k:=by omega);(go_wp2_with fail);go_ret;exact ⟨rfl,hB⟩
def dP (d:Nat):Prop:=∀ (v:Value) (n:Nd) (w:World) (deep:Nat) (head:Bool),ax w v n→(aa d).expr n=true→deep+d≤1000→(tx ((an d).expr n deep head)).size≤10000000000000000 →
 Calls Tryz.prog 15 #[v,.int .i64 (deep:Int),.bool head] w fun e w'=>e=.returned (.string (tx ((an d).expr n deep head)))∧Below w.heap.size w w'
def ii (d:Nat):Prop:=∀ (v:Value) (n:Nd) (w:World) (deep:Nat),ax w v n→(aa d).block n=true→deep+d≤1000→(tx ((an d).block n deep)).size≤10000000000000000 →
 Calls Tryz.prog 39 #[v,.int .i64 (deep:Int)] w fun e w'=>e=.returned (.string (tx ((an d).block n deep)))∧Below w.heap.size w w'
def p4 (d:Nat):Prop:=∀ (v:Value) (n:Nd) (w:World) (deep:Nat),ax w v n→(aa d).stmt n=true→deep+d≤1000→(tx ((an d).stmt n deep false)).size≤10000000000000000 →
 Calls Tryz.prog 69 #[v,.int .i64 (deep:Int),.bool false] w fun e w'=>e=.returned (.string (tx ((an d).stmt n deep false)))∧Below w.heap.size w w'
theorem Dp (F:oX) (n:Nd) (deep:Nat) (head:Bool):tx (aT F true n deep head)=(⟨#[40]⟩:BA)++tx (F.expr n deep false)++(⟨#[41]⟩:BA):=by show tx (cF 40::(F.expr n deep false++[cF 41]))=_;rw [aj,aQ,ah];rfl
theorem mt (d:Nat) (M:dP d) (v:Value) (n:Nd) (w:World) (yes:Bool) (deep:Nat) (head:Bool) (I:ax w v n) (J:(aa d).expr n=true) (hd:deep+d≤1000) (N:(tx (aT (an d) yes n deep head)).size≤10000000000000000) :
  Calls Tryz.prog 34 #[v,.bool yes,.int .i64 (deep:Int),.bool head] w fun e w'=>e=.returned (.string (tx (aT (an d) yes n deep head)))∧Below w.heap.size w w':=by
 obtain ⟨A,cp,rfl,U⟩:=I.toC;have hB:=(ae w #[.int .i64 n.kind,.string n.text,.slice A n.kids.length cp,.int .i64 n.pos]).1;cases yes with
 | true=>have K:=hid (Dp (an d) n deep head);rw [K.out,ByteArray.size_append,ByteArray.size_append] at N;have O:=hid (M _ n _ deep false (ai.below I hB) J hd (by omega));generalize tx ((an d).expr n deep false)=X at *;clear I J U M hd;(go_enter Tryz.func34,Tryz.ntmps34);(go_wp2_with fail);refine O.out.mono ?_;rintro e w3 ⟨rfl,D⟩;(go_wp2_with fail);go_ret;exact ⟨by rw [K.out];rfl,am hB D⟩
 | false=>have O:=hid (M _ n _ deep head (ai.below I hB) J hd N);have K:=hid (show tx (aT (an d) false n deep head)=tx ((an d).expr n deep head) from rfl);generalize tx ((an d).expr n deep head)=X at *;clear I J U M hd N;(go_enter Tryz.func34,Tryz.ntmps34);(go_wp2_with fail);refine O.out.mono ?_;rintro e w3 ⟨rfl,D⟩;(go_wp2_with fail);go_ret;exact ⟨by rw [K.out];rfl,am hB D⟩
theorem p5 (d:Nat) (HE:dP d) (v:Value) (n:Nd) (w:World) (deep:Nat) (hv:ax w v n) (hn:∀ x∈n.kids.drop 1,(if x.kind=11∨x.kind=12 then (aa d).typ x else (aa d).expr x)=true) (hd:deep+d≤1000) (hM:(tx (dy (an d) n deep)).size≤10000000000000000) :
  Calls Tryz.prog 36 #[v,.int .i64 (deep:Int)] w fun e w'=>e=.returned (.string (tx (dy (an d) n deep)))∧Below w.heap.size w w':=by
 obtain ⟨A,cp,rfl,hC⟩:=hv.toC;have gg:=hid (eY d);have gh:=hid HE;have HN:=hid hn;have HR:=hid (show tx (dy (an d) n deep)=tx (bH bo ((n.kids.drop 1).map (dO (an d) deep))) from rfl);rw [HR.out] at hM;have gi:=ms bo (by decide) (dO (an d) deep) (n.kids.drop 1);have HV:=hid hv;have hB:=(ae w #[.int .i64 n.kind,.string n.text,.slice A n.kids.length cp,.int .i64 n.pos]).1;have gd:=(ae w #[.int .i64 n.kind,.string n.text,.slice A n.kids.length cp,.int .i64 n.pos]).2;clear hv hC HE hn;(go_enter Tryz.func36,Tryz.ntmps36);(go_wp2_with fail);generalize w.alloc (.cells #[.int .i64 n.kind,.string n.text,.slice A n.kids.length cp,.int .i64 n.pos] 24)=w0 at *;have yk:(n.kids.drop 1).length=n.kids.length-1:=List.length_drop ..;go_loopg [5,6] (n.kids.drop 1).length (fun k u5 u6 wr=>∃ i:Nat,i≤(n.kids.drop 1).length∧(n.kids.drop 1).length-i≤k∧u6=.int .i64 ((i+1:Nat):Int)∧u5=.string (tx (bH bo (((n.kids.drop 1).take i).map (dO (an d) deep))))∧Below w0.heap.size w0 wr)
 case atStart=>exact ⟨0,Nat.zero_le _,by omega,rfl,rfl,Below.refl _ _⟩
 case round=>
  obtain ⟨i,hi,M,rfl,rfl,K⟩:=hrel;have gj:=fv bo (dO (an d) deep) (n.kids.drop 1) i hi;obtain ⟨n0,n1,n2,n3,-,-,-,-⟩:=ac (gd.bl K);by_cases U:i<(n.kids.drop 1).length
  ·(have gb:i+1<n.kids.length:=by omega);(have ga:((i+1:Nat):Int)<(n.kids.length:Int):=by omega);(have h0:(0:Int)≤((i+1:Nat):Int):=by omega);obtain ⟨bp,op,A2,c2,ge,hp⟩:=cH (ai.below HV.out (am hB K)) (i+1) gb;subst ge;have D:=hid (og bo (dO (an d) deep) (n.kids.drop 1) i U);have J:=fv bo (dO (an d) deep) (n.kids.drop 1) (i+1) U;rw [D.out,ByteArray.size_append,ByteArray.size_append] at J;have HX:=hid (HN.out _ (List.getElem_mem U));(have he:(n.kids.drop 1)[i]=n.kids[i+1]:=by rw [List.getElem_drop];congr 1;omega);rw [he] at D J HX;clear he;generalize n.kids[i+1]=x at *;generalize tx (bH bo (((n.kids.drop 1).take i).map (dO (an d) deep)))=S at *;have N:Below wr.heap.size wr (wr.alloc (.cells #[.int .i64 x.kind,.string x.text,.slice A2 x.kids.length c2,.int .i64 x.pos] 24)):=(Below.refl _ wr).alloc (Nat.le_refl _) _;have hx:=hp.2.2.2.2;obtain ⟨p0,p1,p2,p3,-⟩:=hp;by_cases M:x.kind=11∨x.kind=12
   ·have u:=hid (HX.out);rw [if_pos M] at u;(have hP:dO (an d) deep x=az d x:=by unfold dO;rw [if_pos M];cases d <;> rfl);rw [hP] at D J;have O:=hid (gg.out _ x _ (ai.below hx N) u.out (by omega));generalize tx (az d x)=X at *;clear HX u hP hx;rcases M with M | M <;> rw [M] at p0 O N <;> rcases Nat.eq_zero_or_pos i with I | I;all_goals
     first
      | ((have j:¬ (1:Int)<((i+1:Nat):Int):=by omega);rw [mX bo I] at D J;simp only [fu] at D)
      | ((have j:(1:Int)<((i+1:Nat):Int):=by omega);rw [mY bo I,oe] at D J)
     clear I;(go_wp2_with fail);refine O.out.mono ?_;rintro e w3 ⟨rfl,q⟩;clear p0 p1 p2 p3 n0 n1 n2 n3;(go_wp2_with fail);go_roundg ((n.kids.drop 1).length-(i+1))
     case measure=>omega
     case rel=>exact ⟨i+1,by omega,Nat.le_refl _,by go_num,by first | exact congrArg Value.string D.out.symm | (rw [D.out];simp only [ah]),K.trans ((am N q).mono K.size)⟩
   ·have u:=hid (HX.out);rw [if_neg M] at u;(have hP:dO (an d) deep x=(an d).expr x deep false:=by unfold dO;rw [if_neg M]);rw [hP] at D J;have O:=hid (gh.out _ x _ deep false (ai.below hx N) u.out hd (by omega));generalize tx ((an d).expr x deep false)=X at *;(have k1:(x.kind==11)=false:=by rw [beq_eq_false_iff_ne];exact fun h=>M (.inl h));(have k2:(x.kind==12)=false:=by rw [beq_eq_false_iff_ne];exact fun h=>M (.inr h));clear HX u hP hx M;rcases Nat.eq_zero_or_pos i with I | I;all_goals
     first
      | ((have j:¬ (1:Int)<((i+1:Nat):Int):=by omega);rw [mX bo I] at D J;simp only [fu] at D)
      | ((have j:(1:Int)<((i+1:Nat):Int):=by omega);rw [mY bo I,oe] at D J)
     clear I;(go_wp2_with fail);refine O.out.mono ?_;rintro e w3 ⟨rfl,q⟩;clear p0 p1 p2 p3 n0 n1 n2 n3;(go_wp2_with fail);go_roundg ((n.kids.drop 1).length-(i+1))
     case measure=>omega
     case rel=>exact ⟨i+1,by omega,Nat.le_refl _,by go_num,by first | exact congrArg Value.string D.out.symm | (rw [D.out];simp only [ah]),K.trans ((am N q).mono K.size)⟩
  ·(have ga:¬ ((i+1:Nat):Int)<(n.kids.length:Int):=by omega);have D:=hid (show tx (bH bo (((n.kids.drop 1).take i).map (dO (an d) deep)))=tx (bH bo ((n.kids.drop 1).map (dO (an d) deep))) by rw [List.take_of_length_le (by omega)]);rw [←D.out] at HR;generalize tx (bH bo (((n.kids.drop 1).take i).map (dO (an d) deep)))=S at *;(go_wp2_with fail);go_ret;exact ⟨by rw [HR.out];rfl,am hB K⟩
theorem sb (s:ByteArray) (i:Nat) (D:i<s.size) (W:World):(Instr.index 9 (.string s) (.int .i64 (i:Int))).run Tryz.prog W=.ok (.int .u8 (ab s i:Int)) W:=by rw [run_index_string (P:=Tryz.prog) W 9 s .i64 (i:Int) Tryz.underlying9];simp [ab,D];rfl
def Fe (s:ByteArray) (i:Nat):ByteArray:=eg (34::((bytes s).take i).flatMap br)
def G3 (b:UInt8):ByteArray:=eg (br b)
theorem yc (x y:List UInt8):eg (x++y)=eg x++eg y:=by apply cj;rw [cS,bN,bN,bN]
theorem y9 (s:ByteArray) (i:Nat) (h:i<s.size):Fe s (i+1)=Fe s i++G3 ((bytes s).getD i 0):=by have D:i<(bytes s).length:=h;unfold Fe G3;rw [←yc,List.take_succ_eq_append_getElem D,List.flatMap_append,List.flatMap_cons,List.flatMap_nil,List.append_nil,List.getD_eq_getElem?_getD,List.getElem?_eq_getElem D];rfl
theorem G4 (s:ByteArray):eg (bW (bytes s))=Fe s s.size++(⟨#[34]⟩:BA):=by unfold Fe bW;rw [show (⟨#[34]⟩:BA)=eg [34] from rfl,←yc,show (bytes s).take s.size=bytes s from List.take_of_length_le (Nat.le_refl _)]
theorem G5 (b:UInt8):(G3 b).size≤4:=by (have:(br b).length≤4:=by unfold br;(repeat' split);all_goals simp);exact this
theorem Dq (s:ByteArray):∀ i,i≤s.size→(Fe s i).size≤4 * i+1
 | 0,_=>by unfold Fe;rw [List.take_zero];exact Nat.le_refl _
 | i+1,h=>by have:=Dq s i (by omega);have:=G5 ((bytes s).getD i 0);rw [y9 s i (by omega),ByteArray.size_append];omega
def Bn:ByteArray:=(⟨#[48,49,50,51,52,53,54,55,56,57,97,98,99,100,101,102]⟩:BA)
theorem pa:∀ n,n<16→Bn.extract n (n+1)=⟨#[rp n]⟩:=by decide +kernel
theorem Ff {c:UInt8} (h:¬ (c=34∨c=92∨c=10∨c=9)) (D:32≤c.toNat∧c.toNat≤126):G3 c=⟨#[c]⟩:=by simp only [not_or] at h;unfold G3 br;rw [if_neg h.1,if_neg h.2.1,if_neg h.2.2.1,if_neg h.2.2.2,if_pos D];rfl
theorem Fg {c:UInt8} (h:¬ (c=34∨c=92∨c=10∨c=9)) (D:¬ (32≤c.toNat∧c.toNat≤126)):G3 c=(⟨#[92,120]⟩:BA)++Bn.extract (c.toNat / 16) (c.toNat / 16+1)++Bn.extract (c.toNat % 16) (c.toNat % 16+1):=by have I:c.toNat<256:=UInt8.toNat_lt c;rw [pa (c.toNat / 16) (by omega),pa (c.toNat % 16) (by omega)];simp only [not_or] at h;unfold G3 br;rw [if_neg h.1,if_neg h.2.1,if_neg h.2.2.1,if_neg h.2.2.2,if_neg D];rfl
theorem Dr (s:ByteArray) (i:Nat) (h:i<s.size):s.extract i (i+1)=⟨#[(bytes s).getD i 0]⟩:=by apply cj;have D:i<(bytes s).length:=h;rw [fr,show i+1-i=1 by omega,List.drop_eq_getElem_cons D,List.getD_eq_getElem?_getD,List.getElem?_eq_getElem D];rfl
theorem Bo (s:ByteArray) (hs:s.size≤1000) (w:World):Calls Tryz.prog 33 #[.string s] w fun e w'=>e=.returned (.string (eg (bW (bytes s))))∧Below w.heap.size w w':=by
 have M:=hid (G4 s);(go_enter Tryz.func33,Tryz.ntmps33);(go_wp2_with fail);go_loopg [3,4] s.size (fun k u3 u4 wr=>∃ i:Nat,i≤s.size∧s.size-i≤k∧u4=.int .i64 (i:Int)∧u3=.string (Fe s i)∧Below w.heap.size w wr)
 case atStart=>exact ⟨0,Nat.zero_le _,by omega,rfl,rfl,Below.refl _ _⟩
 case round=>
  obtain ⟨i,hi,hk,rfl,rfl,hB⟩:=hrel;have u:=Dq s i hi;by_cases I:i<s.size
  ·(have J:(i:Int)<(s.size:Int):=by omega);(have h0:(0:Int)≤(i:Int):=by omega);have hb:=fun W=>sb s i I W;have K:=hid (y9 s i I);have U:=hid (Dr s i I);have N:=eH s i;have D:ab s i=((bytes s).getD i 0).toNat:=rfl;generalize (bytes s).getD i 0=c at *;generalize ab s i=cn at *;generalize Fe s i=S at *;by_cases c1:c=34∨c=92∨c=10∨c=9
   ·rcases c1 with rfl | rfl | rfl | rfl;all_goals
     (first | (obtain rfl:cn=34:=D) | (obtain rfl:cn=92:=D) | (obtain rfl:cn=10:=D) | (obtain rfl:cn=9:=D));(go_wp2_with fail);go_roundg (s.size-(i+1))
     case measure=>omega
     case rel=>exact ⟨i+1,by omega,Nat.le_refl _,by go_num,by rw [K.out];rfl,hB⟩
   ·(have d1:cn≠34∧cn≠92∧cn≠10∧cn≠9:=by refine ⟨?_,?_,?_,?_⟩ <;> intro h <;> rw [D] at h <;> refine c1 ?_ <;> simp only [←UInt8.toNat_inj] <;> simp only [h] <;> decide);(have e1:((cn:Int)==34)=false:=by rw [beq_eq_false_iff_ne];omega);(have e2:((cn:Int)==92)=false:=by rw [beq_eq_false_iff_ne];omega);(have e3:((cn:Int)==10)=false:=by rw [beq_eq_false_iff_ne];omega);(have e4:((cn:Int)==9)=false:=by rw [beq_eq_false_iff_ne];omega);by_cases c2:32≤cn∧cn≤126
    ·(have g1:(32:Int)≤(cn:Int):=by omega);(have g2:(cn:Int)≤126:=by omega);(have p0:(0:Int)≤(i:Int):=by omega);(have p1:(i:Int)≤(s.size:Int):=by omega);(have p2:(0:Int)≤(i:Int)+1:=by omega);(have p3:(i:Int)+1≤(s.size:Int):=by omega);have q1:IntKind.i64.wrap ((i:Int)+1)=(i:Int)+1:=IntWalk.i64_in _ (by omega);(have q2:((i:Int)+1).toNat=i+1:=by omega);rw [Ff c1 (by rw [←D];exact c2)] at K;(have hz:(s.extract i (i+1)).size=1:=by rw [U.out];rfl);clear D c1 c2 d1 N;(go_wp2_with fail);go_roundg (s.size-(i+1))
     case measure=>omega
     case rel=>exact ⟨i+1,by omega,Nat.le_refl _,by go_num,by rw [K.out,U.out],hB⟩
    ·have g3:32≤cn→¬ cn≤126:=fun a b=>c2 ⟨a,b⟩;rw [Fg c1 (by rw [←D];exact c2)] at K;(go_upto_region 6 with fail);all_goals
      (have q:(Bn.extract (c.toNat / 16) (c.toNat / 16+1)).size=1:=by rw [pa _ (by omega)];rfl);(have j:(Bn.extract (c.toNat % 16) (c.toNat % 16+1)).size=1:=by rw [pa _ (by omega)];rfl);unfold Bn at q j;refine dl wr ?_;(repeat (go_big_quiet_step (fail)));refine wpQuiet_nil ?_;intro m;have O:=m.ok;(go_wp2_with fail);go_roundg (s.size-(i+1))
      case measure=>omega
      case rel=>exact ⟨i+1,by omega,Nat.le_refl _,by go_num,by rw [K.out];rfl,am hB O⟩
  ·(have J:¬ (i:Int)<(s.size:Int):=by omega);(obtain rfl:i=s.size:=by omega);(go_wp2_with fail);go_ret;exact ⟨by rw [M.out];rfl,hB⟩
def p6 (d:Nat) (P:Int→Prop):Prop:=∀ (v:Value) (n:Nd) (w:World) (deep:Nat) (head:Bool),ax w v n→ay (aa d) n=true→P n.kind→deep+d≤1000→(tx (i7 (an d) n deep head)).size≤10000000000000000 →
 Calls Tryz.prog 15 #[v,.int .i64 (deep:Int),.bool head] w fun e w'=>e=.returned (.string (tx (i7 (an d) n deep head)))∧Below w.heap.size w w'
theorem Ds (d:Nat):p6 d (fun k=>k=16∨k=18):=by
 intro v n w deep head hv hn D hd hM;obtain ⟨A,cp,rfl,I⟩:=hv.toC;have hB:=(ae w #[.int .i64 n.kind,.string n.text,.slice A n.kids.length cp,.int .i64 n.pos]).1;have J:Hid (tx (i7 (an d) n deep head)=n.text):=by
  refine hid ?_;unfold i7;rcases D with h | h <;> rw [h]
  ·exact pU 4 n.text
  ·exact lH n.text
 clear hv hn I hd hM;rcases D with h | h <;> rw [h] at hB ⊢;all_goals (go_enter Tryz.func15,Tryz.ntmps15);(go_wp2_with fail);go_ret;exact ⟨by rw [J.out];rfl,hB⟩
theorem Fh (d:Nat):p6 d (fun k=>k=17):=by intro v n w deep head hv hn hk hd hM;obtain ⟨A,cp,rfl,I⟩:=hv.toC;have hB:=(ae w #[.int .i64 n.kind,.string n.text,.slice A n.kids.length cp,.int .i64 n.pos]).1;(have J:Hid (tx (i7 (an d) n deep head)=eg (bW (bytes n.text))):=by refine hid ?_;unfold i7;rw [if_neg (by omega),if_pos hk];apply cj;rw [mq,bN];exact List.append_nil _);(have hs:n.text.size≤1000:=by unfold ay at hn;rw [if_neg (by omega),if_pos hk] at hn;obtain ⟨t,l,a,rfl,hs,-⟩:=aM (by decide) hn;exact of_decide_eq_true hs);have K:=hid (fun w'=>Bo n.text hs w');clear hv hn I hd hM;rw [hk] at hB ⊢;(go_enter Tryz.func15,Tryz.ntmps15);(go_wp2_with fail);refine (K.out _).mono ?_;rintro e w3 ⟨rfl,D⟩;(go_wp2_with fail);go_ret;exact ⟨by rw [J.out];rfl,am hB D⟩
theorem Aa {W:World} {b:Nat} {t:TypeId} {v0 v1 v2 v3:Value} (h:ar W b t #[v0,v1,v2,v3]) :
  (∀ m:Wd (Below W.heap.size W),m.wd.cell? ⟨b,0,none⟩=some v0)∧(∀ m:Wd (Below W.heap.size W),m.wd.cell? ⟨b,1,none⟩=some v1)∧(∀ m:Wd (Below W.heap.size W),m.wd.cell? ⟨b,2,none⟩=some v2)∧(∀ m:Wd (Below W.heap.size W),m.wd.cell? ⟨b,3,none⟩=some v3):=
 ⟨fun m=>((h.bl m.ok).cell 0).trans rfl,fun m=>((h.bl m.ok).cell 1).trans rfl,fun m=>((h.bl m.ok).cell 2).trans rfl,fun m=>((h.bl m.ok).cell 3).trans rfl⟩
theorem p8 {W:World} {b o:Nat} {x:Nd} {A:Option Addr} {c:Nat} (h:K4 W b o x A c) :
  (∀ m:Wd (Below W.heap.size W),m.wd.cell? ⟨b,o,none⟩=some (.int .i64 x.kind))∧(∀ m:Wd (Below W.heap.size W),m.wd.cell? ⟨b,o+1,none⟩=some (.string x.text))∧(∀ m:Wd (Below W.heap.size W),m.wd.cell? ⟨b,o+2,none⟩=some (.slice A x.kids.length c))∧(∀ m:Wd (Below W.heap.size W),m.wd.cell? ⟨b,o+3,none⟩=some (.int .i64 x.pos)):=
 ⟨fun m=>(h.below m.ok).1,fun m=>(h.below m.ok).2.1,fun m=>(h.below m.ok).2.2.1,fun m=>(h.below m.ok).2.2.2.1⟩
theorem yd (n x:Nd):dK n x=((x.kind==20)||((x.kind==19)&&((n.text.toList==[45])&&(x.text.toList==[45])))):=by unfold dK;rw [bq,bq];rfl
theorem Dt (F:oX) (t:ByteArray) (x:Nd) (p:Int) (deep:Nat) (head:Bool):tx (i7 F (.mk 19 t [x] p) deep head)=t++tx (aT F (dK (.mk 19 t [x] p) x) x deep head):=by show tx (nK t::aT F _ x deep head)=_;rw [aj,Dk];rfl
theorem G6 (d:Nat) (HE:dP d):p6 d (fun k=>k=19):=by
 intro v n w deep head hv hn hk hd hM;unfold ay at hn;rw [if_neg (by omega),if_neg (by omega),if_neg (by omega),if_pos hk] at hn;obtain ⟨t,l,p,rfl,-,h0⟩:=aM (by decide) hn;obtain ⟨x,rfl,hx⟩:=ec h0;have HR:=hid (Dt (an d) t x p deep head);rw [HR.out,ByteArray.size_append] at hM;have J:=hid (yd (.mk 19 t [x] p) x);obtain ⟨A,cp,rfl,hC⟩:=hv.toC;simp only [Nd.kind_mk,Nd.text_mk,Nd.kids_mk,Nd.pos_mk] at *;have hB:=(ae w #[.int .i64 19,.string t,.slice A 1 cp,.int .i64 p]).1;have K:ax w (.agg #[.int .i64 19,.string t,.slice A 1 cp,.int .i64 p]) (.mk 19 t [x] p):=hv;obtain ⟨bp,op,D,c2,rfl,N⟩:=cH (ai.below K hB) 0 (by simp);simp only [Nd.kids_mk,List.getElem_cons_zero,Nat.zero_mul,Nat.add_zero] at N;have h:=hB.alloc (by simp) (.cells #[.int .i64 x.kind,.string x.text,.slice D x.kids.length c2,.int .i64 x.pos] 24);have hX:ar ((w.alloc (.cells #[.int .i64 19,.string t,.slice (some ⟨bp,op,none⟩) 1 cp,.int .i64 p] 24)).alloc (.cells #[.int .i64 x.kind,.string x.text,.slice D x.kids.length c2,.int .i64 x.pos] 24)) (w.heap.size+1) 24 #[.int .i64 x.kind,.string x.text,.slice D x.kids.length c2,.int .i64 x.pos]:=ar.new_at (by simp) _ _;have hN:=(show ar (w.alloc (.cells #[.int .i64 19,.string t,.slice (some ⟨bp,op,none⟩) 1 cp,.int .i64 p] 24)) w.heap.size 24 #[.int .i64 19,.string t,.slice (some ⟨bp,op,none⟩) 1 cp,.int .i64 p] from ar.new w _ _).alloc (.cells #[.int .i64 x.kind,.string x.text,.slice D x.kids.length c2,.int .i64 x.pos] 24);have I:=ai.below N.2.2.2.2 ((Below.refl _ _).alloc (Nat.le_refl _) (.cells #[.int .i64 x.kind,.string x.text,.slice D x.kids.length c2,.int .i64 x.pos] 24));obtain ⟨p0,p1,p2,p3,-⟩:=N;clear hv hC K hB h0;(go_enter Tryz.func15,Tryz.ntmps15);(go_upto_region 6 with fail);generalize (w.alloc (.cells #[.int .i64 19,.string t,.slice (some ⟨bp,op,none⟩) 1 cp,.int .i64 p] 24)).alloc (.cells #[.int .i64 x.kind,.string x.text,.slice D x.kids.length c2,.int .i64 x.pos] 24)=W at *;have u:=hid (fun m:Wd (Below W.heap.size W)=>mt d HE _ x m.wd (dK (.mk 19 t [x] p) x) deep head (ai.below I m.ok) hx hd (by omega));obtain ⟨x0,x1,x2,x3⟩:=Aa hX;obtain ⟨-,n1,-,-⟩:=Aa hN;generalize tx (aT (an d) (dK (.mk 19 t [x] p) x) x deep head)=X at *;clear hX hN I hx HE p0 p1 p2 p3;cases j:(x.kind==20)
 rotate_left
 rotate_left
 cases q:(x.kind==19)
 rotate_left
 cases O:(t.toList==[45]) <;> cases M:(x.text.toList==[45]);all_goals
  (try rw [q] at J);(try rw [O,M] at J);rw [j] at J;first
   | rw [show dK (.mk 19 t [x] p) x=true from J.out] at u
   | rw [show dK (.mk 19 t [x] p) x=false from J.out] at u
  refine dl W ?_;(repeat (go_big_quiet_step ((go_at_call 34;rename_i m;refine (u.out m).mono ?_;rintro e w' ⟨rfl,hb⟩;exact ⟨rfl,⟨w',am m.ok hb⟩,rfl⟩))));refine wpQuiet_nil ?_;intro m;have U:=am h m.ok;(go_wp2_with fail);go_ret;exact ⟨by rw [HR.out];rfl,U⟩
theorem Du (F:oX) (t:ByteArray) (a b:Nd) (p:Int) (deep:Nat) (head:Bool):tx (i7 F (.mk 20 t [a,b] p) deep head)=tx (aT F (ft (.mk 20 t [a,b] p) a) a deep head)++(⟨#[32]⟩:BA)++t++(⟨#[32]⟩:BA)++tx (aT F (ez (.mk 20 t [a,b] p) b) b deep head):=by show tx (aT F _ a deep head++(aY::nK t::aY::aT F _ b deep head))=_;rw [aQ,aj,aj (nK t),aj aY (aT F _ b deep head),Dk,pV,ah,ah,ah];rfl
theorem Fi (d:Nat) (HE:dP d):p6 d (fun k=>k=20):=by
 intro v n w deep head hv hn hk hd hM;unfold ay at hn;rw [if_neg (by omega),if_neg (by omega),if_neg (by omega),if_neg (by omega),if_pos hk] at hn;obtain ⟨t,l,p,rfl,-,h0⟩:=aM (by decide) hn;obtain ⟨a,b,rfl,ha,hb⟩:=il h0;have HR:=hid (Du (an d) t a b p deep head);rw [HR.out,ByteArray.size_append,ByteArray.size_append,ByteArray.size_append,ByteArray.size_append] at hM;obtain ⟨A,cp,rfl,hC⟩:=hv.toC;simp only [Nd.kind_mk,Nd.text_mk,Nd.kids_mk,Nd.pos_mk] at *;have hB:=(ae w #[.int .i64 20,.string t,.slice A 2 cp,.int .i64 p]).1;have ge:ax w (.agg #[.int .i64 20,.string t,.slice A 2 cp,.int .i64 p]) (.mk 20 t [a,b] p):=hv;have q:=(ae w #[.int .i64 20,.string t,.slice A 2 cp,.int .i64 p]).2;obtain ⟨bp,op,A2,c2,A3,c3,rfl,j,U⟩:=ya (ai.below ge hB);(go_enter Tryz.func15,Tryz.ntmps15);(go_upto_region 8 with fail);generalize w.alloc (.cells #[.int .i64 20,.string t,.slice (some ⟨bp,op,none⟩) 2 cp,.int .i64 p] 24)=W at *;have KS:∀ w',Below W.heap.size W w'→(w'.cell? ⟨w.heap.size,1,none⟩=some (.string t)∧w'.cell? ⟨w.heap.size,2,none⟩=some (.slice (some ⟨bp,op,none⟩) 2 cp)∧w'.cell? ⟨bp,op,none⟩=some (.int .i64 a.kind)∧w'.cell? ⟨bp,op+1,none⟩=some (.string a.text)∧w'.cell? ⟨bp,op+2,none⟩=some (.slice A2 a.kids.length c2)∧w'.cell? ⟨bp,op+3,none⟩=some (.int .i64 a.pos) ∧
   w'.cell? ⟨bp,op+4,none⟩=some (.int .i64 b.kind)∧w'.cell? ⟨bp,op+4+1,none⟩=some (.string b.text)∧w'.cell? ⟨bp,op+4+2,none⟩=some (.slice A3 b.kids.length c3)∧w'.cell? ⟨bp,op+4+3,none⟩=some (.int .i64 b.pos)):=fun w' h=>
  ⟨(ac (q.bl h)).2.1,(ac (q.bl h)).2.2.1,(j.below h).1,(j.below h).2.1,(j.below h).2.2.1,(j.below h).2.2.2.1,(U.below h).1,(U.below h).2.1,(U.below h).2.2.1,(U.below h).2.2.2.1⟩
 have K:Hid (ft (.mk 20 t [a,b] p) a=((a.kind==20)&&decide ((ed a.text:Int)<(ed t:Int)))):=hid (by unfold ft;congr 1;rw [decide_eq_decide];exact Int.ofNat_lt.symm);have M:Hid (ez (.mk 20 t [a,b] p) b=((b.kind==20)&&decide ((ed b.text:Int)≤(ed t:Int)))):=hid (by unfold ez;congr 1;rw [decide_eq_decide];exact Int.ofNat_le.symm);have J:=j.2.2.2.2;have I:=U.2.2.2.2;have gg:=hid (fun W=>oh t W);clear hv hC ge h0;go_cut [8,9,10] (fun s8 s9 s10 wx=>∃ ga gb,s8=.pointer (some ⟨ga,0,none⟩)∧s9=.pointer (some ⟨gb,0,none⟩)∧s10=.int .i64 (ed t:Int)∧Below W.heap.size W wx ∧
  ar wx ga 24 #[.int .i64 a.kind,.string a.text,.slice A2 a.kids.length c2,.int .i64 a.pos]∧ar wx gb 24 #[.int .i64 b.kind,.string b.text,.slice A3 b.kids.length c3,.int .i64 b.pos])
 case first=>
  go_region_held3 (fun w'=>w'.cell? ⟨w.heap.size,1,none⟩=some (.string t)∧w'.cell? ⟨w.heap.size,2,none⟩=some (.slice (some ⟨bp,op,none⟩) 2 cp)∧w'.cell? ⟨bp,op,none⟩=some (.int .i64 a.kind)∧w'.cell? ⟨bp,op+1,none⟩=some (.string a.text)∧w'.cell? ⟨bp,op+2,none⟩=some (.slice A2 a.kids.length c2)∧w'.cell? ⟨bp,op+3,none⟩=some (.int .i64 a.pos) ∧
    w'.cell? ⟨bp,op+4,none⟩=some (.int .i64 b.kind)∧w'.cell? ⟨bp,op+4+1,none⟩=some (.string b.text)∧w'.cell? ⟨bp,op+4+2,none⟩=some (.slice A3 b.kids.length c3)∧w'.cell? ⟨bp,op+4+3,none⟩=some (.int .i64 b.pos))
   (exact KS _ bel)
   ((go_at_call 35;refine (gg.out _).mono ?_;rintro e w' ⟨rfl,rfl⟩))
  all_goals
   (go_wp2_with fail);go_meet;first
    | exact ⟨W.heap.size,W.heap.size+1,rfl,rfl,rfl,bel,(ar.new W _ _).alloc _,ar.new_at (by simp) _ _⟩
    | exact ⟨W.heap.size+1,W.heap.size,rfl,rfl,rfl,bel,ar.new_at (by simp) _ _,(ar.new W _ _).alloc _⟩
 case rest=>
  obtain ⟨ga,gb,rfl,rfl,rfl,D,gd,u⟩:=hcut;have q:=q.bl D;have J:=ai.below J D;have I:=ai.below I D;have gk:=am hB D;clear j U KS gg D hB;generalize wc=V at *;have gm:=hid (fun m:Wd (Below V.heap.size V)=>oh a.text m.wd);have gl:=hid (fun m:Wd (Below V.heap.size V)=>oh b.text m.wd);generalize (ed a.text:Int)=la at *;generalize (ed b.text:Int)=lb at *;generalize (ed t:Int)=lt at *;have O:=hid (fun m:Wd (Below V.heap.size V)=>mt d HE _ a m.wd (ft (.mk 20 t [a,b] p) a) deep head (ai.below J m.ok) ha hd (by omega));have N:=hid (fun m:Wd (Below V.heap.size V)=>mt d HE _ b m.wd (ez (.mk 20 t [a,b] p) b) deep head (ai.below I m.ok) hb hd (by omega));generalize tx (aT (an d) (ft (.mk 20 t [a,b] p) a) a deep head)=X at *;generalize tx (aT (an d) (ez (.mk 20 t [a,b] p) b) b deep head)=Y at *;obtain ⟨a0,a1,a2,a3⟩:=Aa gd;obtain ⟨b0,b1,b2,b3⟩:=Aa u;obtain ⟨-,n1,-,-⟩:=Aa q;clear gd u q J I HE ha hb hn;cases gi:(a.kind==20) <;> cases gh:(b.kind==20);all_goals
   rw [gi] at K;rw [gh] at M;first
    | rw [show ft (.mk 20 t [a,b] p) a=false from K.out] at O
    | rw [show ft (.mk 20 t [a,b] p) a=decide (la<lt) from K.out] at O
   first
    | rw [show ez (.mk 20 t [a,b] p) b=false from M.out] at N
    | rw [show ez (.mk 20 t [a,b] p) b=decide (lb≤lt) from M.out] at N
   (go_upto_region 9 with fail);refine dl V ?_;repeat (go_big_quiet_step (first
    | (go_at_call 35;rename_i m;((with_reducible first | refine (gm.out m).mono ?_ | refine (gl.out m).mono ?_);rintro e w' ⟨rfl,rfl⟩);exact ⟨rfl,m,rfl⟩)
    | (go_at_call 34;rename_i m;with_reducible exact oT O.out m)
    | (go_at_call 34;rename_i m;with_reducible exact oT N.out m)))
   refine wpQuiet_nil ?_;intro m;have gj:=am gk m.ok;(go_wp2_with fail);go_ret;exact ⟨by rw [HR.out];rfl,gj⟩
end
end Go.Proofs.YtiebcdeafofgdaaGreatDoor
