/-
  Parts of the proof: Ufields Uparams Ublock Uplain. By an AI agent.
-/
import Derived.Test.YteialcjaiocjdaaGreatDoorJ13
import Derived.Test.YteialcjaiocjdaaGreatDoorJ12
open Go.Proofs.Tryz
set_option maxRecDepth 100000
set_option maxHeartbeats 8000000
namespace Go.Proofs.YteialcjaiocjdaaGreatDoor
section
open Go.RowKit Go.Lib Go.Proofs
attribute [local go_sem ↓] Go.wp_at_zero Go.wp_at_succ
theorem DB(d:Nat)(hT:tg d 16 (aa d).typ):∀(v:Value)(n:Nd)(w:World),aF w v n->df (d+1) n->Calls prog 38 #[v] w fun e w'=>e=.returned (.bool (bE (aa d) n))/\Below w w w':=by
 intro v n w hv hd;have HV:=hid hv;have HD:=hid hd;have gx:=hd.1.1;obtain⟨A,cp,rfl,hC⟩:=hv.toC;have hB:=(aj w #[n.kind,n.text,.slice A n.kids.length cp,n.pos]).1;have gd:=(aj w #[n.kind,n.text,.slice A n.kids.length cp,n.pos]).2;have H0:=hid hT;clear hv hC hd hT;generalize aa d=F at *;obtain⟨nk,nt,nl,np⟩:=n;simp only[Nd.kind_mk,Nd.text_mk,Nd.kids_mk,Nd.pos_mk]at *;by_cases h1:nk=13
 rotate_left
 ·(have gp:(nk != 13)=true:=by simpa using h1);have U:Hid (bE F (.mk nk nt nl np)=false):=hid (by simp[bE,h1]);clear h1;(go_enter func38,ntmps38);go_wp2_with fail;go_ret;exact⟨by rw[U.out];rfl,hB⟩
 subst h1;by_cases h2:nt=⟨#[]⟩
 rotate_left
 ·(have gp:nt.toList.isEmpty=false:=by rw[ao];simpa using h2);have U:Hid (bE F (.mk 13 nt nl np)=false):=hid (by simp[bE,h2]);clear h2;(go_enter func38,ntmps38);go_wp2_with fail;go_ret;exact⟨by rw[U.out];rfl,hB⟩
 subst h2;have gm:=hid (show bE F (.mk 13 ⟨#[]⟩ nl np)=nl.all (io F)by simp[bE]);(go_enter func38,ntmps38);go_wp2_with fail;go_loopg [3,4] nl.length (fun k u3 _ wr=>∃i:Nat,i<=nl.length/\nl.length-i<=k/\u3=.int .i64 (i:Int)/\Below w w wr/\aq wr w.heap.size 24 #[.int .i64 13,.string ⟨#[]⟩,.slice A nl.length cp,.int .i64 np]/\(nl.take i).all (io F)=true)
 case atStart=>exact⟨0,gQ _,by omega,rfl,hB,gd,rfl⟩
 case round=>
  clear hB gd;obtain⟨i,hi,hk,rfl,gj,gd,ga⟩:=hrel;obtain⟨x0,x1,x2,x3,-,-,-,-⟩:=ab gd;by_cases gh:i<nl.length
  ·(have gq:(i:Int)<(nl.length:Int):=by omega);(have h0:(0:Int)<=(i:Int):=by omega);obtain⟨bp,op,A2,c2,gv,hp⟩:=bC (af.below HV.out gj) i gh;simp only[Nd.kids_mk]at hp;subst gv;have N:Hid (io F nl[i]=true->(nl.take (i+1)).all (io F)=true):=hid (by intro h;rw[gU gh,kU,ga];simp[h]);have D:Hid (io F nl[i]=false->bE F (.mk 13 ⟨#[]⟩ nl np)=false):=hid (by intro h;rw[gm.out,qg];exact⟨_,gS gh,by simp[h]⟩);have gw:=hid (HD.out.kid (k:=nl[i]) (gS gh));rw[IK]at N D;generalize nl[i]=q at *;obtain⟨qk,qt,ql,qp⟩:=q;obtain⟨p0,p1,p2,p3,gn⟩:=hp;simp only[Nd.kind_mk,Nd.text_mk,Nd.kids_mk,Nd.pos_mk]at N D p0 p1 p2 p3 gn;have gu:=hid gn;have M:=gj.alloc gj.size (.cells #[.int .i64 qk,.string qt,.slice A2 ql.length c2,.int .i64 qp] 24);have O:=aq.new wr 24 #[.int .i64 qk,.string qt,.slice A2 ql.length c2,.int .i64 qp];have gb:=(aj wr #[.int .i64 qk,.string qt,.slice A2 ql.length c2,.int .i64 qp]).1;clear ga gn;by_cases q1:qk=9
   rotate_left
   ·(have gp:(qk != 9)=true:=by simpa using q1);have U:=hid (D.out (by simp[q1]));clear q1 N D;go_wp2_with fail;go_ret;exact⟨by rw[U.out];rfl,M⟩
   subst q1;cases q2:aB qt with
   |false=>have U:=hid (D.out (by simp[q2]));clear N D;go_wp2_with fail;refine(aQ _ _).mono ?_;rw[q2];rintro e w3⟨rfl,I⟩;go_wp2_with fail;go_ret;exact⟨by rw[U.out];rfl,au M I⟩
   | true=>
    by_cases q3:ql.length=1
    rotate_left
    ·(have gp:((ql.length:Int) != 1)=true:=by simp;omega);have U:=hid (D.out (by rw[iI _ q3];simp));clear q3 N D;go_wp2_with fail;refine(aQ _ _).mono ?_;rw[q2];rintro e w3⟨rfl,I⟩;have ge:=au M I;have J:=O.bl I;obtain⟨z0,z1,z2,z3,-,-,-,-⟩:=ab J;go_wp2_with fail;go_ret;exact⟨by rw[U.out];rfl,ge⟩
    obtain⟨x,rfl⟩:=nu q3;rw[dX]at N D;have gl:aF wr (.agg #[.int .i64 9,.string qt,.slice A2 1 c2,.int .i64 qp]) (.mk 9 qt [x] qp):=gu.out;have M:Below w w (wr.alloc (.cells #[.int .i64 9,.string qt,.slice A2 1 c2,.int .i64 qp] 24)):=M;have O:aq (wr.alloc (.cells #[.int .i64 9,.string qt,.slice A2 1 c2,.int .i64 qp] 24)) wr.heap.size 24 #[.int .i64 9,.string qt,.slice A2 1 c2,.int .i64 qp]:=O;obtain⟨bx,ox,A3,c3,rfl,hx⟩:=bC gl 0 (by simp);simp only[Nd.kids_mk,gN,jF,gZ]at hx;have gb:Below wr wr (wr.alloc (.cells #[.int .i64 9,.string qt,.slice (some ⟨bx,ox,none⟩) 1 c2,.int .i64 qp] 24)):=gb;have gt:=hid (hx.below gb);have yk:=hid (fun w'(h:C4 w' bx ox x A3 c3)=>H0.out _ x w' h.2.2.2.2 (gw.out.kid' (k:=x) (by simp)));have gs:=gd.bl gb;clear hx q3 gu gl gb;cases q4:F.typ x with
    |false=>have U:=hid (D.out (by simp[q4]));rw[q4]at yk;clear q4 N D;go_wp2_with fail;refine(aQ _ _).mono ?_;rw[q2];rintro e w3⟨rfl,I⟩;have ge:=au M I;have J:=O.bl I;obtain⟨z0,z1,z2,z3,-,-,-,-⟩:=ab J;have gg:=hid (gt.out.below I);obtain⟨y0,y1,y2,y3,-⟩:=gg.out;go_wp2_with fail;refine(yk.out _ gg.out).mono ?_;rintro e w4⟨rfl,gi⟩;go_wp2_with fail;go_ret;exact⟨by rw[U.out];rfl,au ge gi⟩
    |true=>
     have U:=hid (N.out (by simp[q4,q2]));rw[q4]at yk;clear q4 N D;go_wp2_with fail;refine(aQ _ _).mono ?_;rw[q2];rintro e w3⟨rfl,I⟩;have ge:=au M I;have J:=O.bl I;obtain⟨z0,z1,z2,z3,-,-,-,-⟩:=ab J;have gg:=hid (gt.out.below I);obtain⟨y0,y1,y2,y3,-⟩:=gg.out;have gr:=gs.bl I;go_wp2_with fail;refine(yk.out _ gg.out).mono ?_;rintro e w4⟨rfl,gi⟩;go_wp2_with fail;go_roundg (nl.length-(i+1))
     case measure=>omega
     case rel=>exact⟨i+1,by omega,gC _,by go_num,au ge gi,gr.bl gi,U.out⟩
  ·(have gq:¬ (i:Int)<(nl.length:Int):=by omega);have U:Hid (bE F (.mk 13 ⟨#[]⟩ nl np)=true):=hid (by rw[gm.out,<-ga,gV (by omega)]);clear ga;go_wp2_with fail;go_ret;exact⟨by rw[U.out];rfl,gj⟩
theorem fW(d:Nat)(hT:tg d 16 (aa d).typ)(hI:tg d 39 (bo (aa d))):∀(v:Value)(n:Nd)(w:World),aF w v n->df (d+1) n->Calls prog 36 #[v] w fun e w'=>e=.returned (.bool (bj (aa d) n))/\Below w w w':=by
 intro v n w hv hd;have HV:=hid hv;have HD:=hid hd;have g8:=hd.1.1;obtain⟨A,cp,rfl,hC⟩:=hv.toC;have hB:=(aj w #[n.kind,n.text,.slice A n.kids.length cp,n.pos]).1;have gs:=(aj w #[n.kind,n.text,.slice A n.kids.length cp,n.pos]).2;have H0:=hid hT;have H1:=hid hI;clear hv hC hd hT hI;generalize aa d=F at *;obtain⟨nk,nt,nl,np⟩:=n;simp only[Nd.kind_mk,Nd.text_mk,Nd.kids_mk,Nd.pos_mk]at *;by_cases h1:nk=6
 rotate_left
 ·(have g2:(nk != 6)=true:=by simpa using h1);have HX:Hid (bj F (.mk nk nt nl np)=false):=hid (by simp[bj,iv,h1]);clear h1;(go_enter func36,ntmps36);go_wp2_with fail;go_ret;exact⟨by rw[HX.out];rfl,hB⟩
 subst h1;by_cases h2:nt=⟨#[]⟩
 rotate_left
 ·(have g2:nt.toList.isEmpty=false:=by rw[ao];simpa using h2);have HX:Hid (bj F (.mk 6 nt nl np)=false):=hid (by simp[bj,iv,h2]);clear h2;(go_enter func36,ntmps36);go_wp2_with fail;go_ret;exact⟨by rw[HX.out];rfl,hB⟩
 subst h2;have g0:=hid (show bj F (.mk 6 ⟨#[]⟩ nl np)=nl.all (fE F)by simp[bj,iv]);(go_enter func36,ntmps36);go_wp2_with fail;go_loopg [3,4,5] nl.length (fun k u3 _ _ wr=>∃i:Nat,i<=nl.length/\nl.length-i<=k/\u3=.int .i64 (i:Int)/\Below w w wr/\aq wr w.heap.size 24 #[.int .i64 6,.string ⟨#[]⟩,.slice A nl.length cp,.int .i64 np]/\(nl.take i).all (fE F)=true)
 case atStart=>exact⟨0,gQ _,by omega,rfl,hB,gs,rfl⟩
 case round=>
  clear hB gs;obtain⟨i,hi,hk,rfl,gw,gs,gp⟩:=hrel;obtain⟨x0,x1,x2,x3,-,-,-,-⟩:=ab gs;by_cases gu:i<nl.length
  ·(have g3:(i:Int)<(nl.length:Int):=by omega);(have h0:(0:Int)<=(i:Int):=by omega);obtain⟨bp,op,A2,c2,g7,hp⟩:=bC (af.below HV.out gw) i gu;simp only[Nd.kids_mk]at hp;subst g7;have ga:Hid (fE F nl[i]=true->(nl.take (i+1)).all (fE F)=true):=hid (by intro h;rw[gU gu,kU,gp];simp[h]);have D:Hid (fE F nl[i]=false->bj F (.mk 6 ⟨#[]⟩ nl np)=false):=hid (by intro h;rw[g0.out,qg];exact⟨_,gS gu,by simp[h]⟩);have g5:=hid (HD.out.kid (k:=nl[i]) (gS gu));rw[E4]at ga D;generalize nl[i]=q at *;obtain⟨qk,qt,ql,qp⟩:=q;obtain⟨p0,p1,p2,p3,g1⟩:=hp;simp only[Nd.kind_mk,Nd.text_mk,Nd.kids_mk,Nd.pos_mk]at ga D p0 p1 p2 p3 g1;have g4:=hid g1;have O:=gw.alloc gw.size (.cells #[.int .i64 qk,.string qt,.slice A2 ql.length c2,.int .i64 qp] 24);have ge:=aq.new wr 24 #[.int .i64 qk,.string qt,.slice A2 ql.length c2,.int .i64 qp];have gr:=(aj wr #[.int .i64 qk,.string qt,.slice A2 ql.length c2,.int .i64 qp]).1;clear gp g1;by_cases q1:qk=7
   rotate_left
   ·(have g2:(qk != 7)=true:=by simpa using q1);have HX:=hid (D.out (by simp[q1]));clear q1 ga D;go_wp2_with fail;go_ret;exact⟨by rw[HX.out];rfl,O⟩
   subst q1;cases q2:aB qt with
   |false=>have HX:=hid (D.out (by simp[q2]));clear ga D;go_wp2_with fail;refine(aQ _ _).mono ?_;rw[q2];rintro e w3⟨rfl,I⟩;go_wp2_with fail;go_ret;exact⟨by rw[HX.out];rfl,au O I⟩
   | true=>
    by_cases q3:ql.length=1
    rotate_left
    ·(have g2:((ql.length:Int) != 1)=true:=by simp;omega);have HX:=hid (D.out (by rw[iI _ q3];simp));clear q3 ga D;go_wp2_with fail;refine(aQ _ _).mono ?_;rw[q2];rintro e w3⟨rfl,I⟩;have U:=au O I;have M:=ge.bl I;obtain⟨z0,z1,z2,z3,-,-,-,-⟩:=ab M;go_wp2_with fail;go_ret;exact⟨by rw[HX.out];rfl,U⟩
    obtain⟨x,rfl⟩:=nu q3;rw[dX]at ga D;have gz:aF wr (.agg #[.int .i64 7,.string qt,.slice A2 1 c2,.int .i64 qp]) (.mk 7 qt [x] qp):=g4.out;have O:Below w w (wr.alloc (.cells #[.int .i64 7,.string qt,.slice A2 1 c2,.int .i64 qp] 24)):=O;have ge:aq (wr.alloc (.cells #[.int .i64 7,.string qt,.slice A2 1 c2,.int .i64 qp] 24)) wr.heap.size 24 #[.int .i64 7,.string qt,.slice A2 1 c2,.int .i64 qp]:=ge;obtain⟨bx,ox,A3,c3,rfl,hx⟩:=bC gz 0 (by simp);simp only[Nd.kids_mk,gN,jF,gZ]at hx;have gr:Below wr wr (wr.alloc (.cells #[.int .i64 7,.string qt,.slice (some ⟨bx,ox,none⟩) 1 c2,.int .i64 qp] 24)):=gr;have gx:=hid (hx.below gr);have gy:=hid (fun w'(h:C4 w' bx ox x A3 c3)=>H0.out _ x w' h.2.2.2.2 (g5.out.kid' (k:=x) (by simp)));have gq:=hid (fun w'(h:C4 w' bx ox x A3 c3)=>H1.out _ x w' h.2.2.2.2 (g5.out.kid' (k:=x) (by simp)));have gn:=gs.bl gr;clear hx q3 g4 gz gr;unfold ck eS at ga D;cases q4:bo F x with
    |true=>
     have HX:=hid (ga.out (by simp[q4,q2]));rw[q4]at gq;clear q4 ga D;go_wp2_with fail;refine(aQ _ _).mono ?_;rw[q2];rintro e w3⟨rfl,I⟩;have U:=au O I;have M:=ge.bl I;obtain⟨z0,z1,z2,z3,-,-,-,-⟩:=ab M;have gj:=hid (gx.out.below I);obtain⟨y0,y1,y2,y3,-⟩:=gj.out;have gh:=gn.bl I;have gm:=U.alloc U.size (.cells #[x.kind,x.text,.slice A3 x.kids.length c3,x.pos] 24);have J:=(aj w3 #[x.kind,x.text,.slice A3 x.kids.length c3,x.pos]).1;have gi:=hid (gj.out.below J);have gg:=gh.bl J;have gd:=aq.new w3 24 #[x.kind,x.text,.slice A3 x.kids.length c3,x.pos];clear J;go_wp2_with fail;refine(gq.out _ gi.out).mono ?_;rintro e w5⟨rfl,N⟩;have gl:=au gm N;have yk:=gg.bl N;have gb:=gd.bl N;have gt:=hid (gi.out.below N);clear y0 y1 y2 y3 z0 z1 z2 z3 p0 p1 p2 p3 x0 x1 x2 x3;obtain⟨z0,z1,z2,z3,-,-,-,-⟩:=ab gb;go_wp2_with fail;go_roundg (nl.length-(i+1))
     case measure=>omega
     case rel=>exact⟨i+1,by omega,gC _,by go_num,gl,yk,HX.out⟩
    | false=>
     rw[q4]at gq;by_cases q5:x.kind=10
     rotate_left
     ·(have g6:(x.kind != 10)=true:=by simpa using q5);have HX:=hid (D.out (by simp[q4,q5]));clear q4 q5 ga D;go_wp2_with fail;refine(aQ _ _).mono ?_;rw[q2];rintro e w3⟨rfl,I⟩;have U:=au O I;have M:=ge.bl I;obtain⟨z0,z1,z2,z3,-,-,-,-⟩:=ab M;have gj:=hid (gx.out.below I);obtain⟨y0,y1,y2,y3,-⟩:=gj.out;have gh:=gn.bl I;have gm:=U.alloc U.size (.cells #[x.kind,x.text,.slice A3 x.kids.length c3,x.pos] 24);have J:=(aj w3 #[x.kind,x.text,.slice A3 x.kids.length c3,x.pos]).1;have gi:=hid (gj.out.below J);have gg:=gh.bl J;have gd:=aq.new w3 24 #[x.kind,x.text,.slice A3 x.kids.length c3,x.pos];clear J;go_wp2_with fail;refine(gq.out _ gi.out).mono ?_;rintro e w5⟨rfl,N⟩;have gl:=au gm N;have yk:=gg.bl N;have gb:=gd.bl N;have gt:=hid (gi.out.below N);clear y0 y1 y2 y3 z0 z1 z2 z3 p0 p1 p2 p3 x0 x1 x2 x3;obtain⟨z0,z1,z2,z3,-,-,-,-⟩:=ab gb;go_wp2_with fail;go_ret;exact⟨by rw[HX.out];rfl,gl⟩
     (have g6:(x.kind != 10)=false:=by simpa using q5);cases q6:F.typ x with
     |false=>have HX:=hid (D.out (by simp[q4,q6]));rw[q6]at gy;clear q4 q5 q6 ga D;go_wp2_with fail;refine(aQ _ _).mono ?_;rw[q2];rintro e w3⟨rfl,I⟩;have U:=au O I;have M:=ge.bl I;obtain⟨z0,z1,z2,z3,-,-,-,-⟩:=ab M;have gj:=hid (gx.out.below I);obtain⟨y0,y1,y2,y3,-⟩:=gj.out;have gh:=gn.bl I;have gm:=U.alloc U.size (.cells #[x.kind,x.text,.slice A3 x.kids.length c3,x.pos] 24);have J:=(aj w3 #[x.kind,x.text,.slice A3 x.kids.length c3,x.pos]).1;have gi:=hid (gj.out.below J);have gg:=gh.bl J;have gd:=aq.new w3 24 #[x.kind,x.text,.slice A3 x.kids.length c3,x.pos];clear J;go_wp2_with fail;refine(gq.out _ gi.out).mono ?_;rintro e w5⟨rfl,N⟩;have gl:=au gm N;have yk:=gg.bl N;have gb:=gd.bl N;have gt:=hid (gi.out.below N);clear y0 y1 y2 y3 z0 z1 z2 z3 p0 p1 p2 p3 x0 x1 x2 x3;obtain⟨z0,z1,z2,z3,-,-,-,-⟩:=ab gb;go_wp2_with fail;refine(gy.out _ gt.out).mono ?_;rintro e w6⟨rfl,gv⟩;go_wp2_with fail;go_ret;exact⟨by rw[HX.out];rfl,au gl gv⟩
     |true=>
      have HX:=hid (ga.out (by simp[q5,q6,q2]));rw[q6]at gy;clear q4 q5 q6 ga D;go_wp2_with fail;refine(aQ _ _).mono ?_;rw[q2];rintro e w3⟨rfl,I⟩;have U:=au O I;have M:=ge.bl I;obtain⟨z0,z1,z2,z3,-,-,-,-⟩:=ab M;have gj:=hid (gx.out.below I);obtain⟨y0,y1,y2,y3,-⟩:=gj.out;have gh:=gn.bl I;have gm:=U.alloc U.size (.cells #[x.kind,x.text,.slice A3 x.kids.length c3,x.pos] 24);have J:=(aj w3 #[x.kind,x.text,.slice A3 x.kids.length c3,x.pos]).1;have gi:=hid (gj.out.below J);have gg:=gh.bl J;have gd:=aq.new w3 24 #[x.kind,x.text,.slice A3 x.kids.length c3,x.pos];clear J;go_wp2_with fail;refine(gq.out _ gi.out).mono ?_;rintro e w5⟨rfl,N⟩;have gl:=au gm N;have yk:=gg.bl N;have gb:=gd.bl N;have gt:=hid (gi.out.below N);clear y0 y1 y2 y3 z0 z1 z2 z3 p0 p1 p2 p3 x0 x1 x2 x3;obtain⟨z0,z1,z2,z3,-,-,-,-⟩:=ab gb;go_wp2_with fail;refine(gy.out _ gt.out).mono ?_;rintro e w6⟨rfl,gv⟩;go_wp2_with fail;go_roundg (nl.length-(i+1))
      case measure=>omega
      case rel=>exact⟨i+1,by omega,gC _,by go_num,au gl gv,yk.bl gv,HX.out⟩
  ·(have g3:¬ (i:Int)<(nl.length:Int):=by omega);have HX:Hid (bj F (.mk 6 ⟨#[]⟩ nl np)=true):=hid (by rw[g0.out,<-gp,gV (by omega)]);clear gp;go_wp2_with fail;go_ret;exact⟨by rw[HX.out];rfl,gw⟩
theorem yc(d:Nat)(hT:tg d 18 (aa d).stmt):∀(v:Value)(n:Nd)(w:World),aF w v n->df (d+1) n->Calls prog 37 #[v] w fun e w'=>e=.returned (.bool (bI (aa d) n))/\Below w w w':=by
 intro v n w hv hd;have HV:=hid hv;have HD:=hid hd;have gj:=hd.1.1;obtain⟨A,cp,rfl,hC⟩:=hv.toC;have hB:=(aj w #[n.kind,n.text,.slice A n.kids.length cp,n.pos]).1;have I:=(aj w #[n.kind,n.text,.slice A n.kids.length cp,n.pos]).2;have H0:=hid hT;clear hv hC hd hT;generalize aa d=F at *;obtain⟨nk,nt,nl,np⟩:=n;simp only[Nd.kind_mk,Nd.text_mk,Nd.kids_mk,Nd.pos_mk]at *;by_cases h1:nk=36
 rotate_left
 ·(have gg:(nk != 36)=true:=by simpa using h1);have U:Hid (bI F (.mk nk nt nl np)=false):=hid (by simp[bI,h1]);clear h1;(go_enter func37,ntmps37);go_wp2_with fail;go_ret;exact⟨by rw[U.out];rfl,hB⟩
 subst h1;by_cases h2:nt=⟨#[]⟩
 rotate_left
 ·(have gg:nt.toList.isEmpty=false:=by rw[ao];simpa using h2);have U:Hid (bI F (.mk 36 nt nl np)=false):=hid (by simp[bI,h2]);clear h2;(go_enter func37,ntmps37);go_wp2_with fail;go_ret;exact⟨by rw[U.out];rfl,hB⟩
 subst h2;have gb:Hid (bI F (.mk 36 ⟨#[]⟩ nl np)=nl.all F.stmt):=hid (by simp[bI]);(go_enter func37,ntmps37);go_wp2_with fail;go_loopg [3] nl.length (fun k u3 wr=>∃i:Nat,i<=nl.length/\nl.length-i<=k/\u3=.int .i64 (i:Int)/\Below w w wr/\aq wr w.heap.size 24 #[.int .i64 36,.string ⟨#[]⟩,.slice A nl.length cp,.int .i64 np]/\(nl.take i).all F.stmt=true)
 case atStart=>exact⟨0,gQ _,by omega,rfl,hB,I,rfl⟩
 case round=>
  clear hB I;obtain⟨i,hi,hk,rfl,O,I,D⟩:=hrel;obtain⟨x0,x1,x2,x3,-,-,-,-⟩:=ab I;by_cases M:i<nl.length
  ·(have ge:(i:Int)<(nl.length:Int):=by omega);(have h0:(0:Int)<=(i:Int):=by omega);obtain⟨bp,op,A2,c2,gh,hp⟩:=bC (af.below HV.out O) i M;simp only[Nd.kids_mk]at hp;subst gh;have gd:Hid (F.stmt nl[i]=true->(nl.take (i+1)).all F.stmt=true):=hid (by intro h;rw[gU M,kU,D];simp[h]);have J:Hid (F.stmt nl[i]=false->bI F (.mk 36 ⟨#[]⟩ nl np)=false):=hid (by intro h;rw[gb.out,qg];exact⟨_,gS M,by simp[h]⟩);have gi:=hid (HD.out.kid (k:=nl[i]) (gS M));generalize nl[i]=q at *;have ga:=hid (H0.out _ q wr hp.2.2.2.2 gi.out);obtain⟨p0,p1,p2,p3,-⟩:=hp;clear D;cases q3:F.stmt q with
   |false=>have U:=hid (J.out q3);rw[q3]at ga;clear q3 gd J;go_wp2_with fail;refine(ga.out).mono ?_;rintro e w3⟨rfl,N⟩;go_wp2_with fail;go_ret;exact⟨by rw[U.out];rfl,au O N⟩
   |true=>
    have U:=hid (gd.out q3);rw[q3]at ga;clear q3 gd J;go_wp2_with fail;refine(ga.out).mono ?_;rintro e w3⟨rfl,N⟩;go_wp2_with fail;go_roundg (nl.length-(i+1))
    case measure=>omega
    case rel=>exact⟨i+1,by omega,gC _,by go_num,au O N,I.bl N,U.out⟩
  ·(have ge:¬ (i:Int)<(nl.length:Int):=by omega);have U:Hid (bI F (.mk 36 ⟨#[]⟩ nl np)=true):=hid (by rw[gb.out,<-D,gV (by omega)]);clear D;go_wp2_with fail;go_ret;exact⟨by rw[U.out];rfl,O⟩
theorem oK(d:Nat)(hT:tg d 17 (aa d).expr)(A:Option Addr)(cp:Nat)(nl:List Nd)(w:World)(hv:lA w (.slice A nl.length cp) nl)(hd:∀n∈nl,df d n)(gg:nl.length<=1000000000):
  Calls prog 41 #[.slice A nl.length cp] w fun e w'=>e=.returned (.bool (nl.all (aa d).expr))/\Below w w w':=by
 have HV:=hid hv;have HD:=hid hd;have H0:=hid hT;clear hv hd hT;generalize aa d=F at *;have HR:Hid (nl.all F.expr=nl.all F.expr):=hid rfl;generalize hres:nl.all F.expr=res at HR |-;have O:=hid hres;clear hres HR;(go_enter func41,ntmps41);go_wp2_with fail;go_loopg [3] nl.length (fun k u3 wr=>∃i:Nat,i<=nl.length/\nl.length-i<=k/\u3=.int .i64 (i:Int)/\Below w w wr/\(nl.take i).all F.expr=true)
 case atStart=>exact⟨0,gQ _,by omega,rfl,gH _ _,rfl⟩
 case round=>
  obtain⟨i,hi,hk,rfl,M,D⟩:=hrel;by_cases J:i<nl.length
  ·(have gd:(i:Int)<(nl.length:Int):=by omega);(have h0:(0:Int)<=(i:Int):=by omega);obtain⟨-,b,off,A1,c1,rfl,gh,p0,p1,p2,p3,gb⟩:=lA.at_ (cV.below HV.out M) i J;have ga:Hid (F.expr nl[i]=true->(nl.take (i+1)).all F.expr=true):=hid (by intro h;rw[gU J,kU,D];simp[h]);have I:Hid (F.expr nl[i]=false->res=false):=hid (by intro h;rw[<-O.out,qg];exact⟨_,gS J,by simp[h]⟩);have ge:=hid (HD.out nl[i] (gS J));generalize nl[i]=q at *;have N:=hid (H0.out _ q wr gb ge.out);clear D gb;cases q3:F.expr q with
   |false=>obtain rfl:=I.out q3;rw[q3]at N;clear q3 ga I;go_wp2_with fail;refine(N.out).mono ?_;rintro e w3⟨rfl,U⟩;go_wp2_with fail;go_ret;exact⟨rfl,au M U⟩
   |true=>
    have HX:=hid (ga.out q3);rw[q3]at N;clear q3 ga I;go_wp2_with fail;refine(N.out).mono ?_;rintro e w3⟨rfl,U⟩;go_wp2_with fail;go_roundg (nl.length-(i+1))
    case measure=>omega
    case rel=>exact⟨i+1,by omega,gC _,by go_num,au M U,HX.out⟩
  ·(have gd:¬ (i:Int)<(nl.length:Int):=by omega);(obtain rfl:res=true:=by rw[<-O.out,<-D,gV (by omega)]);clear D;go_wp2_with fail;go_ret;exact⟨rfl,M⟩
theorem IL(s:ByteArray):cW s=true↔(∀j,j<s.size->aC (cR s j:Int)=true)/\0<s.size/\s.size<=200/\(s.size<=1\/cR s 0≠48):=by
 unfold cW;rw[gA,tG];(have D:s.data.toList.length=s.size:=by simp);constructor
 ·rintro⟨U,I⟩;refine⟨fun j hj=>U j (by omega),?_⟩;rw[gI,gA,gA,gR,gR,gR,gR]at I;rcases I with I|⟨I,O,h4⟩
  ·subst I;exact⟨by decide,by decide,.inl (by decide)⟩
  ·have M:0<s.size:=by
    rcases kJ s.size with h|h
    ·exact absurd (by apply qI;exact Array.eq_empty_of_size_eq_zero h) I
    ·exact h
   refine⟨M,O,.inr fun h=>h4 ?_⟩;(have e:s.data.toList.head? = some (s.data.toList.getD 0 0):=by rw[List.head?_eq_getElem?,jB,gT (by omega)];rfl);rw[e];congr 1;exact UInt8.toNat_inj.1 h
 ·rintro⟨U,I,O,h4⟩;refine⟨fun j hj=>U j (by omega),?_⟩;rw[gI,gA,gA,gR,gR,gR,gR];(have e:s.data.toList.head? = some (s.data.toList.getD 0 0):=by rw[List.head?_eq_getElem?,jB,gT (by omega)];rfl);by_cases h0:cR s 0=48
  ·(have h5:s.size=1:=by omega);left;apply qI;apply Array.toList_inj.1;rcases N:s.data.toList with _|⟨a,_|⟨b,l⟩⟩
   ·rw[N]at D;simp at D;omega
   ·(have:a.toNat=48:=by have J:=h0;unfold cR at J;rw[N]at J;simpa using J);have:a=48:=UInt8.toNat_inj.1 this;rw[this]
   ·rw[N]at D;simp at D;omega
  ·right;refine⟨fun hs=>?_,O,?_⟩
   ·subst hs;simp[ByteArray.size]at I
   ·rw[e];intro h;injection h with h;exact h0 (by unfold cR;rw[h];rfl)
theorem E5(s:ByteArray)(w:World):Calls prog 40 #[s] w fun e w'=>e=.returned (.bool (cW s))/\w=w':=by
 have HP:=hid (IL s);have gb:¬ ((∀j,j<s.size->aC (cR s j:Int)=true)/\0<s.size/\s.size<=200/\(s.size<=1\/cR s 0≠48))->cW s=false:=by
  intro h;cases hp:cW s with
  |false=>rfl
  |true=>exact absurd (HP.out.1 hp) h
 have M:=hid gb;clear gb;by_cases h1:s.size=0
 ·(have hz:((s.size:Int)==0)=true:=by rw[kO];omega);have I:=hid (M.out (by rintro⟨_,h,_⟩;omega));clear h1;(go_enter func40,ntmps40);go_wp2_with fail;go_ret;exact⟨by rw[I.out];rfl,rfl⟩
 (have hz:((s.size:Int)==0)=false:=by rw[gF];omega);by_cases h2:s.size<=200
 rotate_left
 ·(have gg:decide ((200:Int)<(s.size:Int))=true:=by rw[gR];omega);have I:=hid (M.out (by rintro⟨_,_,h,_⟩;omega));clear h1 h2;(go_enter func40,ntmps40);go_wp2_with fail;go_ret;exact⟨by rw[I.out];rfl,rfl⟩
 (have gg:decide ((200:Int)<(s.size:Int))=false:=by rw[gK];omega);(have N:0<s.size:=by omega);have i0:=fun W=>nR s 0 N W;simp only[Int.natCast_zero]at i0;by_cases h3:s.size<=1\/cR s 0≠48
 rotate_left
 ·(have g1:decide ((1:Int)<(s.size:Int))=true:=by rw[gR];omega);(have g2:cR s 0=48:=by omega);have I:=hid (M.out (by rintro⟨_,_,_,h⟩;exact h3 h));rw[g2]at i0;clear h1 h2 h3 g2;(go_enter func40,ntmps40);go_wp2_with fail;go_ret;exact⟨by rw[I.out];rfl,rfl⟩
 have HH:=hid h3;have ga:decide ((1:Int)<(s.size:Int))=false\/(decide ((1:Int)<(s.size:Int))=true/\((cR s 0:Int)==48)=false):=by
  by_cases g:s.size<=1
  ·left;rw[gK];omega
  ·right;exact⟨by rw[gR];omega,by rw[gF];omega⟩
 clear h1 h3;rcases ga with g1|⟨g1,g2⟩;all_goals
  (go_enter func40,ntmps40);go_wp2_with fail;go_loopg [3] s.size (fun k u3 wr=>∃i:Nat,i<=s.size/\s.size-i<=k/\u3=.int .i64 (i:Int)/\w=wr/\∀j,j<i->aC (cR s j:Int)=true)
  case atStart=>exact⟨0,gQ _,by omega,rfl,rfl,fun j hj=>by omega⟩
  case round=>
   obtain⟨i,hi,hk,rfl,rfl,O⟩:=hrel;have HA:=hid O;clear O i0;by_cases ge:i<s.size
   ·(have gd:(i:Int)<(s.size:Int):=by omega);have hb:=fun W=>nR s i ge W;have J:Hid (aC (cR s i:Int)=true->∀j,j<i+1->aC (cR s j:Int)=true):=hid (by
     intro h j hj;by_cases e:j=i
     ·subst e;exact h
     ·exact HA.out j (by omega))
    have D:Hid (aC (cR s i:Int)=false->cW s=false):=hid (by intro h;refine M.out ?_;rintro⟨h',_⟩;rw[h' i ge]at h;cases h);generalize cR s i=c at *;unfold aC at J D;cases q1:decide ((c:Int)<48)with
    |true=>have I:=hid (D.out (by(have:decide (48<=(c:Int))=false:=by simp at q1 |-;omega);rw[this];rfl));clear J D;go_wp2_with fail;go_ret;exact⟨by rw[I.out];rfl,rfl⟩
    | false=>
     (have U:decide (48<=(c:Int))=true:=by simp at q1 |-;omega);cases q2:decide ((57:Int)<(c:Int))with
     |true=>have I:=hid (D.out (by(have:decide ((c:Int)<=57)=false:=by simp at q2 |-;omega);rw[this,jL]));clear J D U;go_wp2_with fail;go_ret;exact⟨by rw[I.out];rfl,rfl⟩
     |false=>
      have I:=hid (J.out (by(have:decide ((c:Int)<=57)=true:=by simp at q2 |-;omega);rw[this,U];rfl));clear J D U;go_wp2_with fail;go_roundg (s.size-(i+1))
      case measure=>omega
      case rel=>exact⟨i+1,by omega,gC _,by go_num,rfl,I.out⟩
   ·(have gd:¬ (i:Int)<(s.size:Int):=by omega);have I:Hid (cW s=true):=hid (by exact HP.out.2 ⟨fun j hj=>HA.out j (by omega),N,h2,HH.out⟩);go_wp2_with fail;go_ret;exact⟨by rw[I.out];rfl,rfl⟩
end
end Go.Proofs.YteialcjaiocjdaaGreatDoor
