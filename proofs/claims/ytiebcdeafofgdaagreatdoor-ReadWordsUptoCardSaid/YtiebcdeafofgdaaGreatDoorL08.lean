/-
  Parts of the proof: Uparams Ublock Uplain Uexpr1 Uexpr2. By an AI agent.
-/
import Derived.Test.YtiebcdeafofgdaaGreatDoorL07
import Derived.Test.YtiebcdeafofgdaaGreatDoorL05
set_option maxRecDepth 100000
set_option maxHeartbeats 8000000
namespace Go.Proofs.YtiebcdeafofgdaaGreatDoor
section
open Go.RowKit Go.Lib Go.Proofs
attribute [local go_sem ↓] Go.wp_at_zero Go.wp_at_succ
theorem dR (d:Nat) (hT:nZ d 25 (aa d).typ) (hI:nZ d 49 (aV (aa d))):∀ (v:Value) (n:Nd) (w:World),ax w v n→cq (d+1) n→Calls Tryz.prog 46 #[v] w fun e w'=>e=.returned (.bool (aR (aa d) n))∧Below w.heap.size w w':=by
 intro v n w hv hd;have HV:=hid hv;have HD:=hid hd;have g5:=hd.1.1;obtain ⟨A,cp,rfl,hC⟩:=hv.toC;have hB:=(ae w #[.int .i64 n.kind,.string n.text,.slice A n.kids.length cp,.int .i64 n.pos]).1;have gp:=(ae w #[.int .i64 n.kind,.string n.text,.slice A n.kids.length cp,.int .i64 n.pos]).2;have H0:=hid hT;have H1:=hid hI;clear hv hC hd hT hI;generalize aa d=F at *;obtain ⟨nk,nt,nl,np⟩:=n;simp only [Nd.kind_mk,Nd.text_mk,Nd.kids_mk,Nd.pos_mk] at *;by_cases h1:nk=6
 rotate_left
 ·(have gz:(nk != 6)=true:=by simpa using h1);have HX:=hid (show aR F (.mk nk nt nl np)=false by simp [aR,eP,h1]);clear h1;(go_enter Tryz.func46,Tryz.ntmps46);(go_wp2_with fail);go_ret;exact ⟨by rw [HX.out];rfl,hB⟩
 subst h1;by_cases h2:nt=⟨#[]⟩
 rotate_left
 ·(have gz:nt.toList.isEmpty=false:=by rw [af];simpa using h2);have HX:=hid (show aR F (.mk 6 nt nl np)=false by simp [aR,eP,h2]);clear h2;(go_enter Tryz.func46,Tryz.ntmps46);(go_wp2_with fail);go_ret;exact ⟨by rw [HX.out];rfl,hB⟩
 subst h2;have gx:=hid (show aR F (.mk 6 ⟨#[]⟩ nl np)=nl.all (eS F) by simp [aR,eP]);(go_enter Tryz.func46,Tryz.ntmps46);(go_wp2_with fail);go_loopg [3,4,5] nl.length (fun k u3 _ _ wr=>∃ i:Nat,i≤nl.length∧nl.length-i≤k∧u3=.int .i64 (i:Int)∧Below w.heap.size w wr∧ar wr w.heap.size 24 #[.int .i64 6,.string ⟨#[]⟩,.slice A nl.length cp,.int .i64 np]∧(nl.take i).all (eS F)=true)
 case atStart=>exact ⟨0,Nat.zero_le _,by omega,rfl,hB,gp,rfl⟩
 case round=>
  clear hB gp;obtain ⟨i,hi,hk,rfl,gt,gp,gl⟩:=hrel;obtain ⟨x0,x1,x2,x3,-,-,-,-⟩:=ac gp;by_cases gr:i<nl.length
  ·(have g0:(i:Int)<(nl.length:Int):=by omega);(have h0:(0:Int)≤(i:Int):=by omega);obtain ⟨bp,op,A2,c2,g4,hp⟩:=aU (ai.below HV.out gt) i gr;simp only [Nd.kids_mk] at hp;subst g4;have U:=hid (show eS F nl[i]=true→(nl.take (i+1)).all (eS F)=true by intro h;rw [List.take_succ_eq_append_getElem gr,List.all_append,gl];simp [h]);have D:=hid (show eS F nl[i]=false→aR F (.mk 6 ⟨#[]⟩ nl np)=false by intro h;rw [gx.out,List.all_eq_false];exact ⟨_,List.getElem_mem gr,by simp [h]⟩);have g2:=hid (HD.out.kid (k:=nl[i]) (List.getElem_mem gr));rw [yh] at U D;generalize nl[i]=q at *;obtain ⟨qk,qt,ql,qp⟩:=q;obtain ⟨p0,p1,p2,p3,gy⟩:=hp;simp only [Nd.kind_mk,Nd.text_mk,Nd.kids_mk,Nd.pos_mk] at U D p0 p1 p2 p3 gy;have g1:=hid gy;have N:=gt.alloc gt.size (.cells #[.int .i64 qk,.string qt,.slice A2 ql.length c2,.int .i64 qp] 24);have ga:=ar.new wr 24 #[.int .i64 qk,.string qt,.slice A2 ql.length c2,.int .i64 qp];have gn:=(ae wr #[.int .i64 qk,.string qt,.slice A2 ql.length c2,.int .i64 qp]).1;clear gl gy;by_cases q1:qk=7
   rotate_left
   ·(have gz:(qk != 7)=true:=by simpa using q1);have HX:=hid (D.out (by simp [q1]));clear q1 U D;(go_wp2_with fail);go_ret;exact ⟨by rw [HX.out];rfl,N⟩
   subst q1;cases q2:aw qt with
   | false=>have HX:=hid (D.out (by simp [q2]));clear U D;(go_wp2_with fail);refine (aB _ _).mono ?_;rw [q2];rintro e w3 ⟨rfl,I⟩;(go_wp2_with fail);go_ret;exact ⟨by rw [HX.out];rfl,am N I⟩
   | true=>
    by_cases q3:ql.length=1
    rotate_left
    ·(have gz:((ql.length:Int) != 1)=true:=by simp;omega);have HX:=hid (D.out (by rw [eC _ q3];simp));clear q3 U D;(go_wp2_with fail);refine (aB _ _).mono ?_;rw [q2];rintro e w3 ⟨rfl,I⟩;have O:=am N I;have K:=ga.bl I;obtain ⟨z0,z1,z2,z3,-,-,-,-⟩:=ac K;(go_wp2_with fail);go_ret;exact ⟨by rw [HX.out];rfl,O⟩
    obtain ⟨x,rfl⟩:=iJ q3;rw [cv] at U D;have gw:ax wr (.agg #[.int .i64 7,.string qt,.slice A2 1 c2,.int .i64 qp]) (.mk 7 qt [x] qp):=g1.out;have N:Below w.heap.size w (wr.alloc (.cells #[.int .i64 7,.string qt,.slice A2 1 c2,.int .i64 qp] 24)):=N;have ga:ar (wr.alloc (.cells #[.int .i64 7,.string qt,.slice A2 1 c2,.int .i64 qp] 24)) wr.heap.size 24 #[.int .i64 7,.string qt,.slice A2 1 c2,.int .i64 qp]:=ga;obtain ⟨bx,ox,A3,c3,rfl,hx⟩:=aU gw 0 (by simp);simp only [Nd.kids_mk,List.getElem_cons_zero,Nat.zero_mul,Nat.add_zero] at hx;have gn:Below wr.heap.size wr (wr.alloc (.cells #[.int .i64 7,.string qt,.slice (some ⟨bx,ox,none⟩) 1 c2,.int .i64 qp] 24)):=gn;have gu:=hid (hx.below gn);have gv:=hid (fun w' (h:C4 w' bx ox x A3 c3)=>H0.out _ x w' h.2.2.2.2 (g2.out.kid' (k:=x) (by simp)));have gm:=hid (fun w' (h:C4 w' bx ox x A3 c3)=>H1.out _ x w' h.2.2.2.2 (g2.out.kid' (k:=x) (by simp)));have yk:=gp.bl gn;clear hx q3 g1 gw gn;unfold bI ey at U D;cases q4:aV F x with
    | true=>
     have HX:=hid (U.out (by simp [q4,q2]));rw [q4] at gm;clear q4 U D;(go_wp2_with fail);refine (aB _ _).mono ?_;rw [q2];rintro e w3 ⟨rfl,I⟩;have O:=am N I;have K:=ga.bl I;obtain ⟨z0,z1,z2,z3,-,-,-,-⟩:=ac K;have gg:=hid (gu.out.below I);obtain ⟨y0,y1,y2,y3,-⟩:=gg.out;have gd:=yk.bl I;have gj:=O.alloc O.size (.cells #[.int .i64 x.kind,.string x.text,.slice A3 x.kids.length c3,.int .i64 x.pos] 24);have J:=(ae w3 #[.int .i64 x.kind,.string x.text,.slice A3 x.kids.length c3,.int .i64 x.pos]).1;have ge:=hid (gg.out.below J);have gb:=gd.bl J;have u:=ar.new w3 24 #[.int .i64 x.kind,.string x.text,.slice A3 x.kids.length c3,.int .i64 x.pos];clear J;(go_wp2_with fail);refine (gm.out _ ge.out).mono ?_;rintro e w5 ⟨rfl,M⟩;have gi:=am gj M;have gh:=gb.bl M;have j:=u.bl M;have gq:=hid (ge.out.below M);clear y0 y1 y2 y3 z0 z1 z2 z3 p0 p1 p2 p3 x0 x1 x2 x3;obtain ⟨z0,z1,z2,z3,-,-,-,-⟩:=ac j;(go_wp2_with fail);go_roundg (nl.length-(i+1))
     case measure=>omega
     case rel=>exact ⟨i+1,by omega,Nat.le_refl _,by go_num,gi,gh,HX.out⟩
    | false=>
     rw [q4] at gm;by_cases q5:x.kind=10
     rotate_left
     ·(have g3:(x.kind != 10)=true:=by simpa using q5);have HX:=hid (D.out (by simp [q4,q5]));clear q4 q5 U D;(go_wp2_with fail);refine (aB _ _).mono ?_;rw [q2];rintro e w3 ⟨rfl,I⟩;have O:=am N I;have K:=ga.bl I;obtain ⟨z0,z1,z2,z3,-,-,-,-⟩:=ac K;have gg:=hid (gu.out.below I);obtain ⟨y0,y1,y2,y3,-⟩:=gg.out;have gd:=yk.bl I;have gj:=O.alloc O.size (.cells #[.int .i64 x.kind,.string x.text,.slice A3 x.kids.length c3,.int .i64 x.pos] 24);have J:=(ae w3 #[.int .i64 x.kind,.string x.text,.slice A3 x.kids.length c3,.int .i64 x.pos]).1;have ge:=hid (gg.out.below J);have gb:=gd.bl J;have u:=ar.new w3 24 #[.int .i64 x.kind,.string x.text,.slice A3 x.kids.length c3,.int .i64 x.pos];clear J;(go_wp2_with fail);refine (gm.out _ ge.out).mono ?_;rintro e w5 ⟨rfl,M⟩;have gi:=am gj M;have gh:=gb.bl M;have j:=u.bl M;have gq:=hid (ge.out.below M);clear y0 y1 y2 y3 z0 z1 z2 z3 p0 p1 p2 p3 x0 x1 x2 x3;obtain ⟨z0,z1,z2,z3,-,-,-,-⟩:=ac j;(go_wp2_with fail);go_ret;exact ⟨by rw [HX.out];rfl,gi⟩
     (have g3:(x.kind != 10)=false:=by simpa using q5);cases q6:F.typ x with
     | false=>have HX:=hid (D.out (by simp [q4,q6]));rw [q6] at gv;clear q4 q5 q6 U D;(go_wp2_with fail);refine (aB _ _).mono ?_;rw [q2];rintro e w3 ⟨rfl,I⟩;have O:=am N I;have K:=ga.bl I;obtain ⟨z0,z1,z2,z3,-,-,-,-⟩:=ac K;have gg:=hid (gu.out.below I);obtain ⟨y0,y1,y2,y3,-⟩:=gg.out;have gd:=yk.bl I;have gj:=O.alloc O.size (.cells #[.int .i64 x.kind,.string x.text,.slice A3 x.kids.length c3,.int .i64 x.pos] 24);have J:=(ae w3 #[.int .i64 x.kind,.string x.text,.slice A3 x.kids.length c3,.int .i64 x.pos]).1;have ge:=hid (gg.out.below J);have gb:=gd.bl J;have u:=ar.new w3 24 #[.int .i64 x.kind,.string x.text,.slice A3 x.kids.length c3,.int .i64 x.pos];clear J;(go_wp2_with fail);refine (gm.out _ ge.out).mono ?_;rintro e w5 ⟨rfl,M⟩;have gi:=am gj M;have gh:=gb.bl M;have j:=u.bl M;have gq:=hid (ge.out.below M);clear y0 y1 y2 y3 z0 z1 z2 z3 p0 p1 p2 p3 x0 x1 x2 x3;obtain ⟨z0,z1,z2,z3,-,-,-,-⟩:=ac j;(go_wp2_with fail);refine (gv.out _ gq.out).mono ?_;rintro e w6 ⟨rfl,gs⟩;(go_wp2_with fail);go_ret;exact ⟨by rw [HX.out];rfl,am gi gs⟩
     | true=>
      have HX:=hid (U.out (by simp [q5,q6,q2]));rw [q6] at gv;clear q4 q5 q6 U D;(go_wp2_with fail);refine (aB _ _).mono ?_;rw [q2];rintro e w3 ⟨rfl,I⟩;have O:=am N I;have K:=ga.bl I;obtain ⟨z0,z1,z2,z3,-,-,-,-⟩:=ac K;have gg:=hid (gu.out.below I);obtain ⟨y0,y1,y2,y3,-⟩:=gg.out;have gd:=yk.bl I;have gj:=O.alloc O.size (.cells #[.int .i64 x.kind,.string x.text,.slice A3 x.kids.length c3,.int .i64 x.pos] 24);have J:=(ae w3 #[.int .i64 x.kind,.string x.text,.slice A3 x.kids.length c3,.int .i64 x.pos]).1;have ge:=hid (gg.out.below J);have gb:=gd.bl J;have u:=ar.new w3 24 #[.int .i64 x.kind,.string x.text,.slice A3 x.kids.length c3,.int .i64 x.pos];clear J;(go_wp2_with fail);refine (gm.out _ ge.out).mono ?_;rintro e w5 ⟨rfl,M⟩;have gi:=am gj M;have gh:=gb.bl M;have j:=u.bl M;have gq:=hid (ge.out.below M);clear y0 y1 y2 y3 z0 z1 z2 z3 p0 p1 p2 p3 x0 x1 x2 x3;obtain ⟨z0,z1,z2,z3,-,-,-,-⟩:=ac j;(go_wp2_with fail);refine (gv.out _ gq.out).mono ?_;rintro e w6 ⟨rfl,gs⟩;(go_wp2_with fail);go_roundg (nl.length-(i+1))
      case measure=>omega
      case rel=>exact ⟨i+1,by omega,Nat.le_refl _,by go_num,am gi gs,gh.bl gs,HX.out⟩
  ·(have g0:¬ (i:Int)<(nl.length:Int):=by omega);have HX:=hid (show aR F (.mk 6 ⟨#[]⟩ nl np)=true by rw [gx.out,←gl,List.take_of_length_le (by omega)]);clear gl;(go_wp2_with fail);go_ret;exact ⟨by rw [HX.out];rfl,gt⟩
theorem rc (d:Nat) (hT:nZ d 27 (aa d).stmt):∀ (v:Value) (n:Nd) (w:World),ax w v n→cq (d+1) n→Calls Tryz.prog 47 #[v] w fun e w'=>e=.returned (.bool (bm (aa d) n))∧Below w.heap.size w w':=by
 intro v n w hv hd;have HV:=hid hv;have HD:=hid hd;have gg:=hd.1.1;obtain ⟨A,cp,rfl,hC⟩:=hv.toC;have hB:=(ae w #[.int .i64 n.kind,.string n.text,.slice A n.kids.length cp,.int .i64 n.pos]).1;have I:=(ae w #[.int .i64 n.kind,.string n.text,.slice A n.kids.length cp,.int .i64 n.pos]).2;have H0:=hid hT;clear hv hC hd hT;generalize aa d=F at *;obtain ⟨nk,nt,nl,np⟩:=n;simp only [Nd.kind_mk,Nd.text_mk,Nd.kids_mk,Nd.pos_mk] at *;by_cases h1:nk=36
 rotate_left
 ·(have gb:(nk != 36)=true:=by simpa using h1);have O:=hid (show bm F (.mk nk nt nl np)=false by simp [bm,h1]);clear h1;(go_enter Tryz.func47,Tryz.ntmps47);(go_wp2_with fail);go_ret;exact ⟨by rw [O.out];rfl,hB⟩
 subst h1;by_cases h2:nt=⟨#[]⟩
 rotate_left
 ·(have gb:nt.toList.isEmpty=false:=by rw [af];simpa using h2);have O:=hid (show bm F (.mk 36 nt nl np)=false by simp [bm,h2]);clear h2;(go_enter Tryz.func47,Tryz.ntmps47);(go_wp2_with fail);go_ret;exact ⟨by rw [O.out];rfl,hB⟩
 subst h2;have j:=hid (show bm F (.mk 36 ⟨#[]⟩ nl np)=nl.all F.stmt by simp [bm]);(go_enter Tryz.func47,Tryz.ntmps47);(go_wp2_with fail);go_loopg [3] nl.length (fun k u3 wr=>∃ i:Nat,i≤nl.length∧nl.length-i≤k∧u3=.int .i64 (i:Int)∧Below w.heap.size w wr∧ar wr w.heap.size 24 #[.int .i64 36,.string ⟨#[]⟩,.slice A nl.length cp,.int .i64 np]∧(nl.take i).all F.stmt=true)
 case atStart=>exact ⟨0,Nat.zero_le _,by omega,rfl,hB,I,rfl⟩
 case round=>
  clear hB I;obtain ⟨i,hi,hk,rfl,N,I,D⟩:=hrel;obtain ⟨x0,x1,x2,x3,-,-,-,-⟩:=ac I;by_cases K:i<nl.length
  ·(have ga:(i:Int)<(nl.length:Int):=by omega);(have h0:(0:Int)≤(i:Int):=by omega);obtain ⟨bp,op,A2,c2,gd,hp⟩:=aU (ai.below HV.out N) i K;simp only [Nd.kids_mk] at hp;subst gd;have u:=hid (show F.stmt nl[i]=true→(nl.take (i+1)).all F.stmt=true by intro h;rw [List.take_succ_eq_append_getElem K,List.all_append,D];simp [h]);have J:=hid (show F.stmt nl[i]=false→bm F (.mk 36 ⟨#[]⟩ nl np)=false by intro h;rw [j.out,List.all_eq_false];exact ⟨_,List.getElem_mem K,by simp [h]⟩);have ge:=hid (HD.out.kid (k:=nl[i]) (List.getElem_mem K));generalize nl[i]=q at *;have U:=hid (H0.out _ q wr hp.2.2.2.2 ge.out);obtain ⟨p0,p1,p2,p3,-⟩:=hp;clear D;cases q3:F.stmt q with
   | false=>have O:=hid (J.out q3);rw [q3] at U;clear q3 u J;(go_wp2_with fail);refine (U.out).mono ?_;rintro e w3 ⟨rfl,M⟩;(go_wp2_with fail);go_ret;exact ⟨by rw [O.out];rfl,am N M⟩
   | true=>
    have O:=hid (u.out q3);rw [q3] at U;clear q3 u J;(go_wp2_with fail);refine (U.out).mono ?_;rintro e w3 ⟨rfl,M⟩;(go_wp2_with fail);go_roundg (nl.length-(i+1))
    case measure=>omega
    case rel=>exact ⟨i+1,by omega,Nat.le_refl _,by go_num,am N M,I.bl M,O.out⟩
  ·(have ga:¬ (i:Int)<(nl.length:Int):=by omega);have O:=hid (show bm F (.mk 36 ⟨#[]⟩ nl np)=true by rw [j.out,←D,List.take_of_length_le (by omega)]);clear D;(go_wp2_with fail);go_ret;exact ⟨by rw [O.out];rfl,N⟩
theorem lC (d:Nat) (hT:nZ d 26 (aa d).expr) (A:Option Addr) (cp:Nat) (nl:List Nd) (w:World) (hv:fe w (.slice A nl.length cp) nl) (hd:∀ n∈nl,cq d n) (gd:nl.length≤1000000000) :
  Calls Tryz.prog 51 #[.slice A nl.length cp] w fun e w'=>e=.returned (.bool (nl.all (aa d).expr))∧Below w.heap.size w w':=by
 have HV:=hid hv;have HD:=hid hd;have H0:=hid hT;clear hv hd hT;generalize aa d=F at *;have HR:=hid (show nl.all F.expr=nl.all F.expr from rfl);generalize hres:nl.all F.expr=res at HR ⊢;have N:=hid hres;clear hres HR;(go_enter Tryz.func51,Tryz.ntmps51);(go_wp2_with fail);go_loopg [3] nl.length (fun k u3 wr=>∃ i:Nat,i≤nl.length∧nl.length-i≤k∧u3=.int .i64 (i:Int)∧Below w.heap.size w wr∧(nl.take i).all F.expr=true)
 case atStart=>exact ⟨0,Nat.zero_le _,by omega,rfl,Below.refl _ _,rfl⟩
 case round=>
  obtain ⟨i,hi,hk,rfl,K,D⟩:=hrel;by_cases J:i<nl.length
  ·(have ga:(i:Int)<(nl.length:Int):=by omega);(have h0:(0:Int)≤(i:Int):=by omega);obtain ⟨-,b,off,A1,c1,rfl,ge,p0,p1,p2,p3,u⟩:=fe.at_ (cy.below HV.out K) i J;have U:=hid (show F.expr nl[i]=true→(nl.take (i+1)).all F.expr=true by intro h;rw [List.take_succ_eq_append_getElem J,List.all_append,D];simp [h]);have I:=hid (show F.expr nl[i]=false→res=false by intro h;rw [←N.out,List.all_eq_false];exact ⟨_,List.getElem_mem J,by simp [h]⟩);have gb:=hid (HD.out nl[i] (List.getElem_mem J));generalize nl[i]=q at *;have M:=hid (H0.out _ q wr u gb.out);clear D u;cases j:F.expr q with
   | false=>obtain rfl:=I.out j;rw [j] at M;clear j U I;(go_wp2_with fail);refine (M.out).mono ?_;rintro e w3 ⟨rfl,O⟩;(go_wp2_with fail);go_ret;exact ⟨rfl,am K O⟩
   | true=>
    have HX:=hid (U.out j);rw [j] at M;clear j U I;(go_wp2_with fail);refine (M.out).mono ?_;rintro e w3 ⟨rfl,O⟩;(go_wp2_with fail);go_roundg (nl.length-(i+1))
    case measure=>omega
    case rel=>exact ⟨i+1,by omega,Nat.le_refl _,by go_num,am K O,HX.out⟩
  ·(have ga:¬ (i:Int)<(nl.length:Int):=by omega);(obtain rfl:res=true:=by rw [←N.out,←D,List.take_of_length_le (by omega)]);clear D;(go_wp2_with fail);go_ret;exact ⟨rfl,K⟩
theorem Bw (s:ByteArray):cA s=true↔(∀ j,j<s.size→ao (bO s j:Int)=true)∧0<s.size∧s.size≤200∧(s.size≤1∨bO s 0≠48):=by
 unfold cA;rw [Bool.and_eq_true,oz];(have D:s.data.toList.length=s.size:=by simp);constructor
 ·rintro ⟨O,I⟩;refine ⟨fun j hj=>O j (by omega),?_⟩;rw [Bool.or_eq_true,Bool.and_eq_true,Bool.and_eq_true,decide_eq_true_iff,decide_eq_true_iff,decide_eq_true_iff,decide_eq_true_iff] at I;rcases I with I | ⟨I,N,U⟩
  ·subst I;exact ⟨by decide,by decide,.inl (by decide)⟩
  ·have K:0<s.size:=by
    rcases Nat.eq_zero_or_pos s.size with h | h
    ·exact absurd (by apply ByteArray.ext;exact Array.eq_empty_of_size_eq_zero h) I
    ·exact h
   refine ⟨K,N,.inr fun h=>U ?_⟩;(have e:s.data.toList.head? = some (s.data.toList.getD 0 0):=by rw [List.head?_eq_getElem?,List.getD_eq_getElem?_getD,List.getElem?_eq_getElem (by omega)];rfl);rw [e];congr 1;exact UInt8.toNat_inj.1 h
 ·rintro ⟨O,I,N,U⟩;refine ⟨fun j hj=>O j (by omega),?_⟩;rw [Bool.or_eq_true,Bool.and_eq_true,Bool.and_eq_true,decide_eq_true_iff,decide_eq_true_iff,decide_eq_true_iff,decide_eq_true_iff];(have e:s.data.toList.head? = some (s.data.toList.getD 0 0):=by rw [List.head?_eq_getElem?,List.getD_eq_getElem?_getD,List.getElem?_eq_getElem (by omega)];rfl);by_cases q:bO s 0=48
  ·(have u:s.size=1:=by omega);left;apply ByteArray.ext;apply Array.toList_inj.1;rcases M:s.data.toList with _ | ⟨a,_ | ⟨b,l⟩⟩
   ·rw [M] at D;simp at D;omega
   ·(have:a.toNat=48:=by have J:=q;unfold bO at J;rw [M] at J;simpa using J);have:a=48:=UInt8.toNat_inj.1 this;rw [this]
   ·rw [M] at D;simp at D;omega
  ·right;refine ⟨fun hs=>?_,N,?_⟩
   ·subst hs;simp [ByteArray.size] at I
   ·rw [e];intro h;injection h with h;exact q (by unfold bO;rw [h];rfl)
theorem yi (s:ByteArray) (w:World):Calls Tryz.prog 50 #[.string s] w fun e w'=>e=.returned (.bool (cA s))∧w=w':=by
 have HP:=hid (Bw s);have q:¬ ((∀ j,j<s.size→ao (bO s j:Int)=true)∧0<s.size∧s.size≤200∧(s.size≤1∨bO s 0≠48))→cA s=false:=by
  intro h;cases hp:cA s with
  | false=>rfl
  | true=>exact absurd (HP.out.1 hp) h
 have K:=hid q;clear q;by_cases h1:s.size=0
 ·(have hz:((s.size:Int)==0)=true:=by rw [beq_iff_eq];omega);have I:=hid (K.out (by rintro ⟨_,h,_⟩;omega));clear h1;(go_enter Tryz.func50,Tryz.ntmps50);(go_wp2_with fail);go_ret;exact ⟨by rw [I.out];rfl,rfl⟩
 (have hz:((s.size:Int)==0)=false:=by rw [beq_eq_false_iff_ne];omega);by_cases h2:s.size≤200
 rotate_left
 ·(have gb:decide ((200:Int)<(s.size:Int))=true:=by rw [decide_eq_true_iff];omega);have I:=hid (K.out (by rintro ⟨_,_,h,_⟩;omega));clear h1 h2;(go_enter Tryz.func50,Tryz.ntmps50);(go_wp2_with fail);go_ret;exact ⟨by rw [I.out];rfl,rfl⟩
 (have gb:decide ((200:Int)<(s.size:Int))=false:=by rw [decide_eq_false_iff_not];omega);(have M:0<s.size:=by omega);have i0:=fun W=>i9 s 0 M W;simp only [Int.natCast_zero] at i0;by_cases h3:s.size≤1∨bO s 0≠48
 rotate_left
 ·(have g1:decide ((1:Int)<(s.size:Int))=true:=by rw [decide_eq_true_iff];omega);(have g2:bO s 0=48:=by omega);have I:=hid (K.out (by rintro ⟨_,_,_,h⟩;exact h3 h));rw [g2] at i0;clear h1 h2 h3 g2;(go_enter Tryz.func50,Tryz.ntmps50);(go_wp2_with fail);go_ret;exact ⟨by rw [I.out];rfl,rfl⟩
 have HH:=hid h3;have U:decide ((1:Int)<(s.size:Int))=false∨(decide ((1:Int)<(s.size:Int))=true∧((bO s 0:Int)==48)=false):=by
  by_cases g:s.size≤1
  ·left;rw [decide_eq_false_iff_not];omega
  ·right;exact ⟨by rw [decide_eq_true_iff];omega,by rw [beq_eq_false_iff_ne];omega⟩
 clear h1 h3;rcases U with g1 | ⟨g1,g2⟩;all_goals
  (go_enter Tryz.func50,Tryz.ntmps50);(go_wp2_with fail);go_loopg [3] s.size (fun k u3 wr=>∃ i:Nat,i≤s.size∧s.size-i≤k∧u3=.int .i64 (i:Int)∧w=wr∧∀ j,j<i→ao (bO s j:Int)=true)
  case atStart=>exact ⟨0,Nat.zero_le _,by omega,rfl,rfl,fun j hj=>by omega⟩
  case round=>
   obtain ⟨i,hi,hk,rfl,rfl,N⟩:=hrel;have HA:=hid N;clear N i0;by_cases ga:i<s.size
   ·(have u:(i:Int)<(s.size:Int):=by omega);have hb:=fun W=>i9 s i ga W;have J:=hid (show ao (bO s i:Int)=true→∀ j,j<i+1→ao (bO s j:Int)=true by
     intro h j hj;by_cases e:j=i
     ·subst e;exact h
     ·exact HA.out j (by omega))
    have D:=hid (show ao (bO s i:Int)=false→cA s=false by intro h;refine K.out ?_;rintro ⟨h',_⟩;rw [h' i ga] at h;cases h);generalize bO s i=c at *;unfold ao at J D;cases q1:decide ((c:Int)<48) with
    | true=>have I:=hid (D.out (by (have:decide (48≤(c:Int))=false:=by simp at q1 ⊢;omega);rw [this];rfl));clear J D;(go_wp2_with fail);go_ret;exact ⟨by rw [I.out];rfl,rfl⟩
    | false=>
     (have O:decide (48≤(c:Int))=true:=by simp at q1 ⊢;omega);cases q2:decide ((57:Int)<(c:Int)) with
     | true=>have I:=hid (D.out (by (have:decide ((c:Int)≤57)=false:=by simp at q2 ⊢;omega);rw [this,Bool.and_false]));clear J D O;(go_wp2_with fail);go_ret;exact ⟨by rw [I.out];rfl,rfl⟩
     | false=>
      have I:=hid (J.out (by (have:decide ((c:Int)≤57)=true:=by simp at q2 ⊢;omega);rw [this,O];rfl));clear J D O;(go_wp2_with fail);go_roundg (s.size-(i+1))
      case measure=>omega
      case rel=>exact ⟨i+1,by omega,Nat.le_refl _,by go_num,rfl,I.out⟩
   ·(have u:¬ (i:Int)<(s.size:Int):=by omega);have I:=hid (show cA s=true by exact HP.out.2 ⟨fun j hj=>HA.out j (by omega),M,h2,HH.out⟩);(go_wp2_with fail);go_ret;exact ⟨by rw [I.out];rfl,rfl⟩
structure fM (d:Nat):Prop where
 typ:nZ d 25 (aa d).typ
 expr:nZ d 26 (aa d).expr
 stmt:nZ d 27 (aa d).stmt
 block:nZ d 47 (aa d).block
theorem ot (k:Int) (D:k≠37) (so:ByteArray→Bool) (l:List Nd) {t:ByteArray} {p:Int} : bQ k [] (aq so (.mk k t l p))=(decide (l.length=0)&&so t):=by
 rw [show aq so (.mk k t l p)=if so t=true then .mk k (⟨#[]⟩:BA) l p else .mk 37 (⟨#[]⟩:BA) [] 0 from rfl];by_cases hs:so t=true
 ·rw [if_pos hs];unfold bQ;rcases l with _ | ⟨x,l⟩ <;> simp [hs,aH]
 ·rw [if_neg hs];rw [Bool.not_eq_true] at hs;unfold bQ;rw [show decide ((Nd.mk 37 (⟨#[]⟩:BA) [] 0).kind=k)=false from decide_eq_false (fun h=>D (Eq.symm h))];simp [hs]
theorem iz (k:Int) (f:Nd→Bool) (so:ByteArray→Bool) (l:List Nd) {t:ByteArray} {p:Int} : bQ k [f] (aq so (.mk k t l p))=(fF f l&&so t):=by rw [fX];simp
theorem DT (d:Nat) (C:fM d) (nt:ByteArray) (nl:List Nd) (np:Int) (A:Option Addr) (cp:Nat) (w:World) (M:ax w (.agg #[.int .i64 16,.string nt,.slice A nl.length cp,.int .i64 np]) (.mk 16 nt nl np)) (hd:cq (d+1) (.mk 16 nt nl np)) :
  Calls Tryz.prog 26 #[.agg #[.int .i64 16,.string nt,.slice A nl.length cp,.int .i64 np]] w fun e w'=>e=.returned (.bool (ay (aa d) (.mk 16 nt nl np)))∧Below w.heap.size w w':=by
 have U:=hid M;have q:=hid hd;have D:=hd.1.1;have h:=hid C.typ;have j:=hid C.expr;have hB:=(ae w #[.int .i64 16,.string nt,.slice A nl.length cp,.int .i64 np]).1;have O:=(ae w #[.int .i64 16,.string nt,.slice A nl.length cp,.int .i64 np]).2;clear M hd C;generalize aa d=F at *;simp only [Nd.kids_mk] at D;have N:=hid (show ay F (.mk 16 nt nl np)=(decide (nl.length=0)&&cA nt) from (by simp [ay]:ay F (.mk 16 nt nl np)=bQ 16 [] (aq cA (.mk 16 nt nl np))).trans (ot 16 (by decide) _ _));by_cases I:nl.length=0
 rotate_left
 ·(have J:((nl.length:Int)==0)=false:=by rw [beq_eq_false_iff_ne];omega);have K:=hid (show ay F (.mk 16 nt nl np)=false by rw [N.out,decide_eq_false I,Bool.false_and]);clear I;generalize nl.length=m at *;(go_enter Tryz.func26,Tryz.ntmps26);(go_wp2_with fail);go_ret;exact ⟨by rw [K.out];rfl,hB⟩
 (have J:((nl.length:Int)==0)=true:=by rw [beq_iff_eq];omega);have K:=hid (show ay F (.mk 16 nt nl np)=cA nt by rw [N.out,decide_eq_true I,Bool.true_and]);clear I;generalize nl.length=m at *;(go_enter Tryz.func26,Tryz.ntmps26);(go_wp2_with fail);refine (yi _ _).mono ?_;rintro e w1 ⟨rfl,rfl⟩;(go_wp2_with fail);go_ret;exact ⟨by rw [K.out];rfl,hB⟩
theorem DU (d:Nat) (C:fM d) (nt:ByteArray) (nl:List Nd) (np:Int) (A:Option Addr) (cp:Nat) (w:World) (M:ax w (.agg #[.int .i64 17,.string nt,.slice A nl.length cp,.int .i64 np]) (.mk 17 nt nl np)) (hd:cq (d+1) (.mk 17 nt nl np)) :
  Calls Tryz.prog 26 #[.agg #[.int .i64 17,.string nt,.slice A nl.length cp,.int .i64 np]] w fun e w'=>e=.returned (.bool (ay (aa d) (.mk 17 nt nl np)))∧Below w.heap.size w w':=by
 have U:=hid M;have u:=hid hd;have D:=hd.1.1;have h:=hid C.typ;have j:=hid C.expr;have hB:=(ae w #[.int .i64 17,.string nt,.slice A nl.length cp,.int .i64 np]).1;have O:=(ae w #[.int .i64 17,.string nt,.slice A nl.length cp,.int .i64 np]).2;clear M hd C;generalize aa d=F at *;simp only [Nd.kids_mk] at D;have N:=hid (show ay F (.mk 17 nt nl np)=(decide (nl.length=0)&&db nt) from (by simp [ay]:ay F (.mk 17 nt nl np)=bQ 17 [] (aq db (.mk 17 nt nl np))).trans (ot 17 (by decide) _ _));by_cases I:nl.length=0
 rotate_left
 ·(have J:((nl.length:Int)==0)=false:=by rw [beq_eq_false_iff_ne];omega);have K:=hid (show ay F (.mk 17 nt nl np)=false by rw [N.out,decide_eq_false I,Bool.false_and]);clear I;generalize nl.length=m at *;(go_enter Tryz.func26,Tryz.ntmps26);(go_wp2_with fail);go_ret;exact ⟨by rw [K.out];rfl,hB⟩
 (have J:((nl.length:Int)==0)=true:=by rw [beq_iff_eq];omega);have K:=hid (show ay F (.mk 17 nt nl np)=db nt by rw [N.out,decide_eq_true I,Bool.true_and]);clear I;generalize nl.length=m at *;(have hd:db nt=decide ((nt.size:Int)≤1000):=by unfold db;rw [decide_eq_decide];omega);cases q:decide ((nt.size:Int)≤1000);all_goals rw [q] at hd;(go_enter Tryz.func26,Tryz.ntmps26);(go_wp2_with fail);go_ret;exact ⟨by rw [K.out,hd];rfl,hB⟩
theorem DV (d:Nat) (C:fM d) (nt:ByteArray) (nl:List Nd) (np:Int) (A:Option Addr) (cp:Nat) (w:World) (N:ax w (.agg #[.int .i64 18,.string nt,.slice A nl.length cp,.int .i64 np]) (.mk 18 nt nl np)) (hd:cq (d+1) (.mk 18 nt nl np)) :
  Calls Tryz.prog 26 #[.agg #[.int .i64 18,.string nt,.slice A nl.length cp,.int .i64 np]] w fun e w'=>e=.returned (.bool (ay (aa d) (.mk 18 nt nl np)))∧Below w.heap.size w w':=by
 have h:=hid N;have u:=hid hd;have D:=hd.1.1;have j:=hid C.typ;have q:=hid C.expr;have hB:=(ae w #[.int .i64 18,.string nt,.slice A nl.length cp,.int .i64 np]).1;have U:=(ae w #[.int .i64 18,.string nt,.slice A nl.length cp,.int .i64 np]).2;clear N hd C;generalize aa d=F at *;simp only [Nd.kids_mk] at D;have O:=hid (show ay F (.mk 18 nt nl np)=(decide (nl.length=0)&&aw nt) from (by simp [ay]:ay F (.mk 18 nt nl np)=bQ 18 [] (aq aw (.mk 18 nt nl np))).trans (ot 18 (by decide) _ _));by_cases I:nl.length=0
 rotate_left
 ·(have J:((nl.length:Int)==0)=false:=by rw [beq_eq_false_iff_ne];omega);have M:=hid (show ay F (.mk 18 nt nl np)=false by rw [O.out,decide_eq_false I,Bool.false_and]);clear I;generalize nl.length=m at *;(go_enter Tryz.func26,Tryz.ntmps26);(go_wp2_with fail);go_ret;exact ⟨by rw [M.out];rfl,hB⟩
 (have J:((nl.length:Int)==0)=true:=by rw [beq_iff_eq];omega);have M:=hid (show ay F (.mk 18 nt nl np)=aw nt by rw [O.out,decide_eq_true I,Bool.true_and]);clear I;generalize nl.length=m at *;(go_enter Tryz.func26,Tryz.ntmps26);(go_wp2_with fail);refine (aB _ _).mono ?_;rintro e w1 ⟨rfl,K⟩;(go_wp2_with fail);go_ret;exact ⟨by rw [M.out];rfl,am hB K⟩
theorem DW (d:Nat) (C:fM d) (nt:ByteArray) (nl:List Nd) (np:Int) (A:Option Addr) (cp:Nat) (w:World) (hv:ax w (.agg #[.int .i64 19,.string nt,.slice A nl.length cp,.int .i64 np]) (.mk 19 nt nl np)) (hd:cq (d+1) (.mk 19 nt nl np)) :
  Calls Tryz.prog 26 #[.agg #[.int .i64 19,.string nt,.slice A nl.length cp,.int .i64 np]] w fun e w'=>e=.returned (.bool (ay (aa d) (.mk 19 nt nl np)))∧Below w.heap.size w w':=by
 have HV:=hid hv;have HD:=hid hd;have D:=hd.1.1;have HT:=hid C.typ;have HE:=hid C.expr;have hB:=(ae w #[.int .i64 19,.string nt,.slice A nl.length cp,.int .i64 np]).1;have I:=(ae w #[.int .i64 19,.string nt,.slice A nl.length cp,.int .i64 np]).2;clear hv hd C;generalize aa d=F at *;simp only [Nd.kids_mk] at D;have O:=hid (show ay F (.mk 19 nt nl np)=(fF F.expr nl&&d6 nt) from (by simp [ay]:ay F (.mk 19 nt nl np)=bQ 19 [F.expr] (aq d6 (.mk 19 nt nl np))).trans (iz _ _ _ _));by_cases N:nl.length=1
 rotate_left
 ·(have ga:((nl.length:Int)==1)=false:=by rw [beq_eq_false_iff_ne];omega);have K:=hid (show ay F (.mk 19 nt nl np)=false by rw [O.out,eC _ N,Bool.false_and]);clear N;generalize nl.length=m at *;(go_enter Tryz.func26,Tryz.ntmps26);(go_wp2_with fail);go_ret;exact ⟨by rw [K.out];rfl,hB⟩
 obtain ⟨x,rfl⟩:=iJ N;have gb:=hid (cv F.expr x);have M:ax w (.agg #[.int .i64 19,.string nt,.slice A 1 cp,.int .i64 np]) (.mk 19 nt [x] np):=HV.out;have hB:Below w.heap.size w (w.alloc (.cells #[.int .i64 19,.string nt,.slice A 1 cp,.int .i64 np] 24)):=hB;have I:ar (w.alloc (.cells #[.int .i64 19,.string nt,.slice A 1 cp,.int .i64 np] 24)) w.heap.size 24 #[.int .i64 19,.string nt,.slice A 1 cp,.int .i64 np]:=I;obtain ⟨bx,ox,A1,c1,rfl,U⟩:=aU M 0 (by simp);simp only [Nd.kids_mk,List.getElem_cons_zero,Nat.zero_mul,Nat.add_zero] at U;have J:=hid U;have u:=hid (fun w' (h:C4 w' bx ox x A1 c1)=>HE.out _ x w' h.2.2.2.2 (HD.out.kid (k:=x) (by simp)));clear U M HV N;cases q:d6 nt with
 | false=>(have e1:(nt.toList==[45])=false:=by unfold d6 at q;rw [←bq nt [45]];exact (Bool.or_eq_false_iff.1 q).1);(have e2:(nt.toList==[33])=false:=by unfold d6 at q;rw [←bq nt [33]];exact (Bool.or_eq_false_iff.1 q).2);have K:=hid (show ay F (.mk 19 nt [x] np)=false by rw [O.out,q,Bool.and_false]);clear q;(go_enter Tryz.func26,Tryz.ntmps26);(go_wp2_with fail);go_ret;exact ⟨by rw [K.out];rfl,hB⟩
 | true=>have K:=hid (show ay F (.mk 19 nt [x] np)=F.expr x by rw [O.out,q,Bool.and_true,cv]);(have q':nt=⟨#[45]⟩∨nt=⟨#[33]⟩:=by unfold d6 at q;simpa using q);obtain ⟨y0,y1,y2,y3,-⟩:=J.out.below hB;clear q O;rcases q' with rfl | rfl;all_goals (go_enter Tryz.func26,Tryz.ntmps26);(go_wp2_with fail);refine (u.out _ (J.out.below hB)).mono ?_;rintro e w1 ⟨rfl,j⟩;(go_wp2_with fail);go_ret;exact ⟨by rw [K.out];rfl,am hB j⟩
theorem DX (d:Nat) (C:fM d) (nt:ByteArray) (nl:List Nd) (np:Int) (A:Option Addr) (cp:Nat) (w:World) (hv:ax w (.agg #[.int .i64 23,.string nt,.slice A nl.length cp,.int .i64 np]) (.mk 23 nt nl np)) (hd:cq (d+1) (.mk 23 nt nl np)) :
  Calls Tryz.prog 26 #[.agg #[.int .i64 23,.string nt,.slice A nl.length cp,.int .i64 np]] w fun e w'=>e=.returned (.bool (ay (aa d) (.mk 23 nt nl np)))∧Below w.heap.size w w':=by
 have HV:=hid hv;have HD:=hid hd;have J:=hd.1.1;have HT:=hid C.typ;have HE:=hid C.expr;have hB:=(ae w #[.int .i64 23,.string nt,.slice A nl.length cp,.int .i64 np]).1;have K:=(ae w #[.int .i64 23,.string nt,.slice A nl.length cp,.int .i64 np]).2;clear hv hd C;generalize aa d=F at *;simp only [Nd.kids_mk] at J;have HR:=hid (show ay F (.mk 23 nt nl np)=(fF F.expr nl&&aw nt) from (by simp [ay]:ay F (.mk 23 nt nl np)=bQ 23 [F.expr] (aq aw (.mk 23 nt nl np))).trans (iz _ _ _ _));by_cases U:nl.length=1
 rotate_left
 ·(have gb:((nl.length:Int)==1)=false:=by rw [beq_eq_false_iff_ne];omega);have N:=hid (show ay F (.mk 23 nt nl np)=false by rw [HR.out,eC _ U,Bool.false_and]);clear U;generalize nl.length=m at *;(go_enter Tryz.func26,Tryz.ntmps26);(go_wp2_with fail);go_ret;exact ⟨by rw [N.out];rfl,hB⟩
 obtain ⟨x,rfl⟩:=iJ U;have gd:=hid (cv F.expr x);have O:ax w (.agg #[.int .i64 23,.string nt,.slice A 1 cp,.int .i64 np]) (.mk 23 nt [x] np):=HV.out;have hB:Below w.heap.size w (w.alloc (.cells #[.int .i64 23,.string nt,.slice A 1 cp,.int .i64 np] 24)):=hB;have K:ar (w.alloc (.cells #[.int .i64 23,.string nt,.slice A 1 cp,.int .i64 np] 24)) w.heap.size 24 #[.int .i64 23,.string nt,.slice A 1 cp,.int .i64 np]:=K;obtain ⟨bx,ox,A1,c1,rfl,j⟩:=aU O 0 (by simp);simp only [Nd.kids_mk,List.getElem_cons_zero,Nat.zero_mul,Nat.add_zero] at j;have M:=hid j;have ga:=hid (fun w' (h:C4 w' bx ox x A1 c1)=>HE.out _ x w' h.2.2.2.2 (HD.out.kid (k:=x) (by simp)));clear j O HV U;cases q:aw nt with
 | false=>have N:=hid (show ay F (.mk 23 nt [x] np)=false by rw [HR.out,q,Bool.and_false]);(go_enter Tryz.func26,Tryz.ntmps26);(go_wp2_with fail);refine (aB _ _).mono ?_;rw [q];rintro e w1 ⟨rfl,D⟩;(go_wp2_with fail);go_ret;exact ⟨by rw [N.out];rfl,am hB D⟩
 | true=>have N:=hid (show ay F (.mk 23 nt [x] np)=F.expr x by rw [HR.out,q,Bool.and_true,cv]);(go_enter Tryz.func26,Tryz.ntmps26);(go_wp2_with fail);refine (aB _ _).mono ?_;rw [q];rintro e w1 ⟨rfl,D⟩;have I:=am hB D;obtain ⟨y0,y1,y2,y3,-⟩:=M.out.below I;(go_wp2_with fail);refine (ga.out _ (M.out.below I)).mono ?_;rintro e w2 ⟨rfl,u⟩;(go_wp2_with fail);go_ret;exact ⟨by rw [N.out];rfl,am I u⟩
theorem DY (d:Nat) (C:fM d) (nt:ByteArray) (nl:List Nd) (np:Int) (A:Option Addr) (cp:Nat) (w:World) (h:ax w (.agg #[.int .i64 21,.string nt,.slice A nl.length cp,.int .i64 np]) (.mk 21 nt nl np)) (hd:cq (d+1) (.mk 21 nt nl np)) :
  Calls Tryz.prog 26 #[.agg #[.int .i64 21,.string nt,.slice A nl.length cp,.int .i64 np]] w fun e w'=>e=.returned (.bool (ay (aa d) (.mk 21 nt nl np)))∧Below w.heap.size w w':=by
 have u:=hid h;have HD:=hid hd;have D:=hd.1.1;have HT:=hid C.typ;have HE:=hid C.expr;have I:=hid (lC d C.expr);have hB:=(ae w #[.int .i64 21,.string nt,.slice A nl.length cp,.int .i64 np]).1;have q:=(ae w #[.int .i64 21,.string nt,.slice A nl.length cp,.int .i64 np]).2;clear h hd C;generalize aa d=F at *;simp only [Nd.kids_mk] at D;have N:=hid (show ay F (.mk 21 nt nl np)=(decide (nt=(⟨#[]⟩:BA))&&(decide (0<nl.length)&&nl.all F.expr)) by (simp [ay];rfl));by_cases M:nt=⟨#[]⟩
 rotate_left
 ·(have J:nt.toList.isEmpty=false:=by rw [af];simpa using M);have K:=hid (show ay F (.mk 21 nt nl np)=false by rw [N.out,decide_eq_false M,Bool.false_and]);clear M;(go_enter Tryz.func26,Tryz.ntmps26);(go_wp2_with fail);go_ret;exact ⟨by rw [K.out];rfl,hB⟩
 subst M;by_cases U:0<nl.length
 rotate_left
 ·(have J:decide ((0:Int)<(nl.length:Int))=false:=by rw [decide_eq_false_iff_not];omega);have j:decide (0<nl.length)=false:=decide_eq_false U;have K:=hid (show ay F (.mk 21 ⟨#[]⟩ nl np)=false by rw [N.out,decide_eq_false U,Bool.false_and,Bool.and_false]);generalize nl.length=m at *;(go_enter Tryz.func26,Tryz.ntmps26);(go_wp2_with fail);go_ret;exact ⟨by rw [K.out];rfl,hB⟩
 (have J:decide ((0:Int)<(nl.length:Int))=true:=by rw [decide_eq_true_iff];omega);have K:=hid (show ay F (.mk 21 ⟨#[]⟩ nl np)=nl.all F.expr by rw [N.out,decide_eq_true U];simp);have I:=hid (I.out A cp nl _ (ai.kidsV (ai.below u.out hB)) (fun n hn=>HD.out.kid hn) D);clear N;(go_enter Tryz.func26,Tryz.ntmps26);(go_wp2_with fail);refine (I.out).mono ?_;rintro e w1 ⟨rfl,O⟩;(go_wp2_with fail);go_ret;exact ⟨by rw [K.out];rfl,am hB O⟩
def iK (f g:Nd→Bool):List Nd→Bool
 | [a,b]=>f a&&g b
 | _=>false
theorem mu (f g:Nd→Bool) {l:List Nd} (h:l.length≠2):iK f g l=false:=by
 rcases l with _ | ⟨x,_ | ⟨y,_ | ⟨z,l⟩⟩⟩
 ·rfl
 ·rfl
 ·exact absurd rfl h
 ·rfl
theorem yj {l:List Nd} (h:l.length=2):∃ x y,l=[x,y]:=by
 rcases l with _ | ⟨x,_ | ⟨y,_ | ⟨z,l⟩⟩⟩
 ·simp at h
 ·simp at h
 ·exact ⟨x,y,rfl⟩
 ·simp at h
theorem mc (k:Int) (f g:Nd→Bool) (n:Nd):bQ k [f,g] n=(decide (n.kind=k)&&(decide (n.text=(⟨#[]⟩:BA))&&iK f g n.kids)):=by
 unfold bQ;congr 2;rcases n.kids with _ | ⟨x,_ | ⟨y,_ | ⟨z,l⟩⟩⟩
 ·rfl
 ·simp [aH,iK]
 ·simp [aH,iK]
 ·simp [aH,iK]
theorem df {d:Nat} {n:Nd} (h:(aa d).typ n=true):n.kind=10∨n.kind=11∨n.kind=12:=by
 cases d with
 | zero=>cases h
 | succ d=>
  rw [show (aa (d+1)).typ n=dg (aa d) n from rfl] at h;obtain ⟨k,t,l,p⟩:=n;by_cases J:k=10
  ·exact .inl J
  by_cases I:k=11
  ·exact .inr (.inl I)
  by_cases D:k=12
  ·exact .inr (.inr D)
  rw [sc _ _ _ _ _ J I D] at h;cases h
theorem DZ (d:Nat) (C:fM d) (nt:ByteArray) (nl:List Nd) (np:Int) (A:Option Addr) (cp:Nat) (w:World) (hv:ax w (.agg #[.int .i64 25,.string nt,.slice A nl.length cp,.int .i64 np]) (.mk 25 nt nl np)) (hd:cq (d+1) (.mk 25 nt nl np)) :
  Calls Tryz.prog 26 #[.agg #[.int .i64 25,.string nt,.slice A nl.length cp,.int .i64 np]] w fun e w'=>e=.returned (.bool (ay (aa d) (.mk 25 nt nl np)))∧Below w.heap.size w w':=by
 have HV:=hid hv;have HD:=hid hd;have O:=hd.1.1;have HT:=hid C.typ;have HE:=hid C.expr;have q:=hid (pG d C.typ true);have u:=hid C.block;have hB:=(ae w #[.int .i64 25,.string nt,.slice A nl.length cp,.int .i64 np]).1;have U:=(ae w #[.int .i64 25,.string nt,.slice A nl.length cp,.int .i64 np]).2;clear hv hd C;generalize aa d=F at *;simp only [Nd.kids_mk] at O;have HR:=hid (show ay F (.mk 25 nt nl np)=(decide (nt=(⟨#[]⟩:BA))&&iK (dn F) F.block nl) from (by simp [ay]:ay F (.mk 25 nt nl np)=bQ 25 [dn F,F.block] (.mk 25 nt nl np)).trans ((mc _ _ _ _).trans (by simp;rfl)));by_cases h1:nt=⟨#[]⟩
 rotate_left
 ·(have ga:nt.toList.isEmpty=false:=by rw [af];simpa using h1);have I:=hid (show ay F (.mk 25 nt nl np)=false by rw [HR.out,decide_eq_false h1,Bool.false_and]);clear h1;(go_enter Tryz.func26,Tryz.ntmps26);(go_wp2_with fail);go_ret;exact ⟨by rw [I.out];rfl,hB⟩
 subst h1;by_cases h2:nl.length=2
 rotate_left
 ·(have ga:((nl.length:Int)==2)=false:=by rw [beq_eq_false_iff_ne];omega);have I:=hid (show ay F (.mk 25 ⟨#[]⟩ nl np)=false by rw [HR.out,mu _ _ h2,Bool.and_false]);clear h2;generalize nl.length=m at *;(go_enter Tryz.func26,Tryz.ntmps26);(go_wp2_with fail);go_ret;exact ⟨by rw [I.out];rfl,hB⟩
 obtain ⟨x,y,rfl⟩:=yj h2;have N:ax w (.agg #[.int .i64 25,.string ⟨#[]⟩,.slice A 2 cp,.int .i64 np]) (.mk 25 ⟨#[]⟩ [x,y] np):=HV.out;have hB:Below w.heap.size w (w.alloc (.cells #[.int .i64 25,.string ⟨#[]⟩,.slice A 2 cp,.int .i64 np] 24)):=hB;have U:ar (w.alloc (.cells #[.int .i64 25,.string ⟨#[]⟩,.slice A 2 cp,.int .i64 np] 24)) w.heap.size 24 #[.int .i64 25,.string ⟨#[]⟩,.slice A 2 cp,.int .i64 np]:=U;obtain ⟨bx,ox,A1,c1,rfl,hx⟩:=aU N 0 (by simp);obtain ⟨bx',ox',A2,c2,e,hy⟩:=aU N 1 (by simp);injection e with e;injection e with e1 e2;subst e1 e2;simp only [Nd.kids_mk,List.getElem_cons_zero,List.getElem_cons_succ,Nat.zero_mul,Nat.add_zero,Nat.one_mul] at hx hy;have M:=hid hx;have j:=hid hy;have gd:=HD.out.kid (k:=x) (by simp);have gb:=HD.out.kid (k:=y) (by simp);have D:=hid (fun w' (h:C4 w' bx ox x A1 c1)=>q.out _ x w' h.2.2.2.2 gd.succ);have gg:=hid (fun w' (h:C4 w' bx (ox+4) y A2 c2)=>u.out _ y w' h.2.2.2.2 gb);have I:=hid (show ay F (.mk 25 ⟨#[]⟩ [x,y] np)=(ep F (cg true) x&&F.block y) by rw [HR.out];simp [iK,dn,cg]);clear hx hy N HV h2 HR q u;obtain ⟨y0,y1,y2,y3,-⟩:=M.out.below hB;cases q1:ep F (cg true) x with
 | false=>rw [q1] at D I;(go_enter Tryz.func26,Tryz.ntmps26);(go_wp2_with fail);refine (D.out _ (M.out.below hB)).mono ?_;rintro e w1 ⟨rfl,J⟩;(go_wp2_with fail);go_ret;exact ⟨by rw [I.out];rfl,am hB J⟩
 | true=>rw [q1] at D I;(go_enter Tryz.func26,Tryz.ntmps26);(go_wp2_with fail);refine (D.out _ (M.out.below hB)).mono ?_;rintro e w1 ⟨rfl,J⟩;have K:=am hB J;obtain ⟨z0,z1,z2,z3,-⟩:=j.out.below K;(go_wp2_with fail);refine (gg.out _ (j.out.below K)).mono ?_;rintro e w2 ⟨rfl,ge⟩;(go_wp2_with fail);go_ret;exact ⟨by rw [I.out];rfl,am K ge⟩
theorem D0 (d:Nat) (C:fM d) (nt:ByteArray) (nl:List Nd) (np:Int) (A:Option Addr) (cp:Nat) (w:World) (hv:ax w (.agg #[.int .i64 24,.string nt,.slice A nl.length cp,.int .i64 np]) (.mk 24 nt nl np)) (hd:cq (d+1) (.mk 24 nt nl np)) :
  Calls Tryz.prog 26 #[.agg #[.int .i64 24,.string nt,.slice A nl.length cp,.int .i64 np]] w fun e w'=>e=.returned (.bool (ay (aa d) (.mk 24 nt nl np)))∧Below w.heap.size w w':=by
 have HV:=hid hv;have HD:=hid hd;have J:=hd.1.1;have HT:=hid C.typ;have HE:=hid C.expr;have ge:=hid (lC d C.expr);have HK:=hid (fun n h=>df (d:=d) (n:=n) h);have hB:=(ae w #[.int .i64 24,.string nt,.slice A nl.length cp,.int .i64 np]).1;have gn:=(ae w #[.int .i64 24,.string nt,.slice A nl.length cp,.int .i64 np]).2;clear hv hd C;generalize aa d=F at *;simp only [Nd.kids_mk] at J;have HR:=hid (show ay F (.mk 24 nt nl np)=(decide (nt=(⟨#[]⟩:BA))&&(decide (0<nl.length)&&(decide ((nl.getD 0 eG).kind≠12)&&(F.typ (nl.getD 0 eG)&&(nl.drop 1).all F.expr)))) by (simp [ay];rfl));by_cases h1:nt=⟨#[]⟩
 rotate_left
 ·(have u:nt.toList.isEmpty=false:=by rw [af];simpa using h1);have HX:=hid (show ay F (.mk 24 nt nl np)=false by rw [HR.out,decide_eq_false h1,Bool.false_and]);clear h1;(go_enter Tryz.func26,Tryz.ntmps26);(go_wp2_with fail);go_ret;exact ⟨by rw [HX.out];rfl,hB⟩
 subst h1;by_cases O:0<nl.length
 rotate_left
 ·(have u:decide ((0:Int)<(nl.length:Int))=false:=by rw [decide_eq_false_iff_not];omega);have gl:decide (0<nl.length)=false:=decide_eq_false O;have HX:=hid (show ay F (.mk 24 ⟨#[]⟩ nl np)=false by rw [HR.out,decide_eq_false O,Bool.false_and,Bool.and_false]);generalize nl.length=m at *;(go_enter Tryz.func26,Tryz.ntmps26);(go_wp2_with fail);go_ret;exact ⟨by rw [HX.out];rfl,hB⟩
 obtain ⟨x,l,rfl⟩:∃ x l,nl=x::l:=by
  rcases nl with _ | ⟨x,l⟩
  ·simp at O
  ·exact ⟨x,l,rfl⟩
 (have u:decide ((0:Int)<((x::l).length:Int))=true:=by rw [decide_eq_true_iff];omega);have N:=hid (show ay F (.mk 24 ⟨#[]⟩ (x::l) np)=(decide (x.kind≠12)&&(F.typ x&&l.all F.expr)) by rw [HR.out,decide_eq_true O];simp);obtain ⟨bx,ox,A1,c1,hA,hx⟩:=aU HV.out 0 O;simp only [Nd.kids_mk,List.getElem_cons_zero,Nat.zero_mul,Nat.add_zero] at hx;subst hA;have M:=hid hx;have gh:=HD.out.kid (k:=x) (by simp);have D:=hid (fun w' (h:C4 w' bx ox x A1 c1)=>HT.out _ x w' h.2.2.2.2 gh);(have gb:(x::l).length≤cp:=by obtain ⟨A9,c9,gm,e9,h9,-⟩:=ai.kidsV HV.out;injection e9 with _ _ e9;omega);obtain ⟨A',gg,q⟩:=px (some ⟨bx,ox,none⟩) (x::l).length cp O gb;have gk:=hid (fun w' (hb:Below w.heap.size w w')=>ge.out A' (cp-1) l w' (by have:=q _ w' _ (cy.below (ai.kidsV HV.out) hb);simpa using this) (fun n hn=>HD.out.kid (k:=n) (by simp [hn])) (by have:=J;simp at this;omega));(have ga:(x::l).length-1=l.length:=by simp);rw [ga] at gg;obtain ⟨y0,y1,y2,y3,-⟩:=M.out.below hB;clear hx q HR ge ga;generalize hm:(x::l).length=m at *;by_cases j:x.kind=10∨x.kind=11
 rotate_left
 ·(have g1:(x.kind==10)=false:=by rw [beq_eq_false_iff_ne];exact fun h=>j (.inl h));(have g2:(x.kind==11)=false:=by rw [beq_eq_false_iff_ne];exact fun h=>j (.inr h));have HX:=hid (show ay F (.mk 24 ⟨#[]⟩ (x::l) np)=false by
   rw [N.out];cases ht:F.typ x with
   | false=>simp
   | true=>have:=HK.out x ht;(have gj:x.kind=12:=by omega);simp [gj])
  clear j;(go_enter Tryz.func26,Tryz.ntmps26);(go_wp2_with fail);go_ret;exact ⟨by rw [HX.out];rfl,hB⟩
 have I:=hid (show ay F (.mk 24 ⟨#[]⟩ (x::l) np)=(F.typ x&&l.all F.expr) by rw [N.out,decide_eq_true (show x.kind≠12 by omega),Bool.true_and]);(have U:(x.kind==10)=true∨((x.kind==10)=false∧(x.kind==11)=true):=by rcases j with h | h <;> simp [h]);clear N j;cases q1:F.typ x with
 | false=>rw [q1] at D I;rcases U with g1 | ⟨g1,g2⟩;all_goals (go_enter Tryz.func26,Tryz.ntmps26);(go_wp2_with fail);refine (D.out _ (M.out.below hB)).mono ?_;rintro e w1 ⟨rfl,K⟩;(go_wp2_with fail);go_ret;exact ⟨by rw [I.out];rfl,am hB K⟩
 | true=>rw [q1] at D I;rcases U with g1 | ⟨g1,g2⟩;all_goals (go_enter Tryz.func26,Tryz.ntmps26);(go_wp2_with fail);refine (D.out _ (M.out.below hB)).mono ?_;rintro e w1 ⟨rfl,K⟩;have gd:=am hB K;(go_wp2_with fail);refine (gk.out _ gd).mono ?_;rintro e w2 ⟨rfl,gi⟩;(go_wp2_with fail);go_ret;exact ⟨by rw [I.out];rfl,am gd gi⟩
end
end Go.Proofs.YtiebcdeafofgdaaGreatDoor
