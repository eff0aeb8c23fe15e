/-
  Parts of the proof: Usmall Usig Udepth Utyp Uinter Ublock. By an AI agent.
-/
import Derived.Test.YtiebcdeafofgdaaGreatDoorJ11
import Derived.Test.YtiebcdeafofgdaaGreatDoorJ09
open Go.Proofs.Tryz
set_option maxRecDepth 100000
set_option maxHeartbeats 8000000
namespace Go.Proofs.YtiebcdeafofgdaaGreatDoor
section
open Go.RowKit Go.Lib Go.Proofs
attribute [local go_sem ↓] Go.wp_at_zero Go.wp_at_succ
theorem gT:type_of% @List.getElem_cons_zero:=@List.getElem_cons_zero
theorem kL:type_of% @List.getElem_cons_succ:=@List.getElem_cons_succ
theorem qQ:type_of% @List.all_append:=@List.all_append
theorem qW:type_of% @Bool.not_eq_true:=@Bool.not_eq_true
theorem vk:type_of% @Bool.and_true:=@Bool.and_true
theorem vu:type_of% @List.all_eq_false:=@List.all_eq_false
theorem dS(s:ByteArray)(w:World):Calls prog 23 #[s] w fun e w'=>e=.returned (.bool (aE s))/\Below w w w':=by
 by_cases h:s.size<=100
 ·have I:=hid (G5 s h w);(have hd:decide ((s.size:Int)<=100)=true:=by rw[gK];omega);have D:Hid (aE s=dP s):=hid (by unfold aE;rw[jO h,kK]);(go_enter func23,ntmps23);go_wp2_with fail;refine(I.out).mono ?_;rintro e w1⟨rfl,hB⟩;go_wp2_with fail;go_ret;exact⟨by rw[D.out];rfl,hB⟩
 ·(have hd:decide ((s.size:Int)<=100)=false:=by rw[gJ];omega);have D:Hid (aE s=false):=hid (by unfold aE;rw[gM h,jG]);(go_enter func23,ntmps23);go_wp2_with fail;go_ret;exact⟨by rw[D.out];rfl,gG _ _⟩
theorem om(s:ByteArray)(w:World):Calls prog 52 #[s] w fun e w'=>e=.returned (.bool (bY s))/\Below w w w':=by have J:=hid (dS s w);have I:=hid (show bY s=(aE s && !(s.toList==[95]))by unfold bY;rw[<-ck s [95]];simp);cases D:aE s<;>cases M:(s.toList==[95]);all_goals rw[D]at J;rw[D,M]at I;clear D;(go_enter func52,ntmps52);go_wp2_with fail;refine(J.out).mono ?_;rintro e w1⟨rfl,hB⟩;go_wp2_with fail;go_ret;exact⟨by rw[I.out];rfl,hB⟩
theorem ev(v:Value)(n:Nd)(w:World)(D:aF w v n):Calls prog 53 #[v] w fun e w'=>e=.returned (.bool (ah n))/\Below w w w':=by obtain⟨A,cp,rfl,J⟩:=D.toC;have hB:=(aj w #[n.kind,n.text,.slice A n.kids.length cp,n.pos]).1;have I:=hid (show ah n=((n.kind==0)&&(n.text.toList.isEmpty&&((n.kids.length:Int)==0)))by unfold ah;rw[aq,fH,fH];congr 2;rw[kU];omega);clear D J;generalize n.kids.length=m at *;cases O:(n.kind==0)<;>cases N:n.text.toList.isEmpty<;>cases M:((m:Int)==0);all_goals rw[O,N,M]at I;(go_enter func53,ntmps53);go_wp2_with fail;go_ret;exact⟨by rw[I.out];rfl,hB⟩
def Bj(d:Nat)(f:FuncId)(P:Nd->Bool):Prop:=∀(v:Value)(n:Nd)(w:World),aF w v n->dK d n->Calls prog f #[v] w fun e w'=>e=.returned (.bool (P n))/\Below w w w'
theorem G6(F:cQ)(so:ByteArray->Bool)(p:Nd):dQ F so p=(decide (p.kind=8)&&((match p.kids with|[x]=>F.typ x|_=>false)&&so p.text)):=by
 obtain⟨k,t,l,a⟩:=p;unfold dQ;rw[show au so (.mk k t l a)=if so t=true then .mk k ⟨#[]⟩ l a else .mk 37 ⟨#[]⟩ [] 0 from rfl];by_cases hs:so t=true
 ·rw[gF hs];unfold cA;rcases l with _|⟨x,_|⟨y,l⟩⟩<;>simp[hs,aY]<;>rfl
 ·rw[d5 hs];rw[qW]at hs;simp[hs,cA]
theorem Pw(F:cQ)(so:ByteArray->Bool)(n:Nd):io F so n=(decide (n.kind=12)&&(decide (n.text=(⟨#[]⟩:BA))&&(match n.kids with|[a,b]=>decide (a.kind=6)&&(decide (a.text=(⟨#[]⟩:BA))&&((ah b||F.typ b)&&a.kids.all (dQ F so)))|_=>false))):=by
 obtain⟨k,t,l,p⟩:=n;unfold io cA;simp only[Nd.text_mk,Nd.kind_mk,Nd.kids_mk];congr 2;rcases l with _|⟨a,_|⟨b,_|⟨c,l⟩⟩⟩
 ·rfl
 ·simp[aY]
 ·simp only[aY,lP,cB,vk];rw[Bool.and_assoc,Bool.and_assoc,Bool.and_comm (x:=a.kids.all _)]
 ·simp[aY]
def C4(w:World)(b o:Nat)(x:Nd)(A:Option Addr)(c:Nat):Prop:=
 w.cell? ⟨b,o,none⟩=some (.int .i64 x.kind)/\w.cell? ⟨b,o+1,none⟩=some (.string x.text)/\w.cell? ⟨b,o+2,none⟩=some (.slice A x.kids.length c)/\w.cell? ⟨b,o+3,none⟩=some (.int .i64 x.pos) /\
  aF w (.agg #[x.kind,x.text,.slice A x.kids.length c,x.pos]) x
theorem C4.below{w w':World}{b o:Nat}{x:Nd}{A:Option Addr}{c:Nat}(h:C4 w b o x A c)(hb:Below w w w'):C4 w' b o x A c:=by obtain⟨M,J,I,D,N⟩:=h;exact⟨(hb.cell (jB w _ M)).trans M,(hb.cell (jB w _ J)).trans J,(hb.cell (jB w _ I)).trans I,(hb.cell (jB w _ D)).trans D,af.below N hb⟩
theorem cE{w:World}{A:Option Addr}{k p:Int}{t:ByteArray}{m cp:Nat}{n:Nd}(h:aF w (.agg #[k,t,.slice A m cp,p]) n)(i:Nat)(J:i<n.kids.length):
  ∃b off I D,A=some ⟨b,off,none⟩/\C4 w b (off+i*4) n.kids[i] I D:=by obtain⟨b,off,I,D,e,_,_,h0,U,O,N,M⟩:=(af.kidsV h).kid i J;exact⟨b,off,I,D,e,h0,U,O,N,M⟩
theorem dK.kid'{g:Nat}{n k:Nd}(h:dK g n)(D:k∈n.kids):dK g k:=by
 cases g with
 |zero=>exact h.elim
 |succ g=>exact(h.kid D).succ
def dR(b:Bool):ByteArray->Bool:=if b then aE else dV
theorem CX(d:Nat)(HT:Bj d 25 (aa d).typ)(names:Bool)(v:Value)(n:Nd)(w:World)(hv:aF w v n)(hd:dK (d+1) n):
  Calls prog 28 #[v,.bool names] w fun e w'=>e=.returned (.bool (io (aa d) (dR names) n))/\Below w w w':=by
 obtain⟨A,cp,rfl,hC⟩:=hv.toC;have HR:=hid (Pw (aa d) (dR names) n);have hB:=(aj w #[n.kind,n.text,.slice A n.kids.length cp,n.pos]).1;have HV:=hid hv;have HD:=hid hd;have gv:=hid HT;have g4:=hd.1.1;clear hv hC hd HT;obtain⟨nk,nt,nl,np⟩:=n;simp only[Nd.kind_mk,Nd.text_mk,Nd.kids_mk,Nd.pos_mk]at *;by_cases h1:nk=12
 rotate_left
 ·(have gb:(nk != 12)=true:=by simpa using h1);have J:Hid (io (aa d) (dR names) (.mk nk nt nl np)=false):=hid (by rw[HR.out];simp[h1]);clear HR h1;(go_enter func28,ntmps28);go_wp2_with fail;go_ret;exact⟨by rw[J.out];rfl,hB⟩
 subst h1;by_cases h2:nt=⟨#[]⟩
 rotate_left
 ·(have gb:nt.toList.isEmpty=false:=by rw[aq];simpa using h2);have J:Hid (io (aa d) (dR names) (.mk 12 nt nl np)=false):=hid (by rw[HR.out];simp[h2]);clear HR h2;(go_enter func28,ntmps28);go_wp2_with fail;go_ret;exact⟨by rw[J.out];rfl,hB⟩
 subst h2;by_cases h3:nl.length=2
 rotate_left
 ·(have gb:((nl.length:Int) != 2)=true:=by simp;omega);have J:Hid (io (aa d) (dR names) (.mk 12 ⟨#[]⟩ nl np)=false):=hid (by
   rw[HR.out];rcases nl with _|⟨a,_|⟨b,_|⟨c,l⟩⟩⟩
   ·simp
   ·simp
   ·exact absurd rfl h3
   ·simp)
  clear HR h3;generalize nl.length=m at *;(go_enter func28,ntmps28);go_wp2_with fail;go_ret;exact⟨by rw[J.out];rfl,hB⟩
 obtain⟨a,b,rfl⟩:∃a b,nl=[a,b]:=by
  rcases nl with _|⟨a,_|⟨b,_|⟨c,l⟩⟩⟩
  ·simp at h3
  ·simp at h3
  ·exact⟨a,b,rfl⟩
  ·simp at h3
 clear h3;have gr:Hid (dK d a):=hid (HD.out.kid (k:=a) (by simp));have g0:Hid (dK d b):=hid (HD.out.kid (k:=b) (by simp));have hB:Below w w (w.alloc (.cells #[.int .i64 12,.string ⟨#[]⟩,.slice A 2 cp,.int .i64 np] 24)):=hB;have gq:aF w (.agg #[.int .i64 12,.string ⟨#[]⟩,.slice A 2 cp,.int .i64 np]) (.mk 12 ⟨#[]⟩ [a,b] np):=HV.out;have gp:an (w.alloc (.cells #[.int .i64 12,.string ⟨#[]⟩,.slice A 2 cp,.int .i64 np] 24)) w.heap.size 24 #[.int .i64 12,.string ⟨#[]⟩,.slice A 2 cp,.int .i64 np]:=an.new w _ _;obtain⟨bk,off,A0,c0,rfl,ha⟩:=cE gq 0 (by simp);obtain⟨bk',off',A1,c1,e,hb⟩:=cE gq 1 (by simp);injection e with e;injection e with e1 e2;subst e1 e2;simp only[Nd.kids_mk,gT,kL,jK,jD,qC]at ha hb;have gs:=hid ha;have ge:=hid hb;obtain⟨a0,a1,a2,a3,-⟩:=ha.below hB;obtain⟨b0,b1,b2,b3,-⟩:=hb.below hB;clear HV gq HD ha hb;obtain⟨ak,atx,al,ap⟩:=a;simp only[Nd.kind_mk,Nd.text_mk,Nd.kids_mk,Nd.pos_mk]at *;by_cases h4:ak=6
 rotate_left
 ·(have gb:(ak != 6)=true:=by simpa using h4);have J:Hid (io (aa d) (dR names) (.mk 12 ⟨#[]⟩ [.mk ak atx al ap,b] np)=false):=hid (by rw[HR.out];simp[h4]);clear HR h4;(go_enter func28,ntmps28);go_wp2_with fail;go_ret;exact⟨by rw[J.out];rfl,hB⟩
 subst h4;by_cases h5:atx=⟨#[]⟩
 rotate_left
 ·(have gb:atx.toList.isEmpty=false:=by rw[aq];simpa using h5);have J:Hid (io (aa d) (dR names) (.mk 12 ⟨#[]⟩ [.mk 6 atx al ap,b] np)=false):=hid (by rw[HR.out];simp[h5]);clear HR h5;(go_enter func28,ntmps28);go_wp2_with fail;go_ret;exact⟨by rw[J.out];rfl,hB⟩
 subst h5;have gj:=hid (fun w'(h:C4 w' bk (off+4) b A1 c1)=>ev _ b w' h.2.2.2.2);have gi:=hid (fun w'(h:C4 w' bk (off+4) b A1 c1)=>gv.out _ b w' h.2.2.2.2 g0.out);by_cases h6:(ah b||(aa d).typ b)=true
 rotate_left
 ·have J:Hid (io (aa d) (dR names) (.mk 12 ⟨#[]⟩ [.mk 6 ⟨#[]⟩ al ap,b] np)=false):=hid (by rw[qW]at h6;rw[HR.out];simp[h6]);simp only[gI,not_or,qW]at h6;obtain⟨g1,g2⟩:=h6;rw[g1]at gj;rw[g2]at gi;clear HR g1 g2;(go_enter func28,ntmps28);go_wp2_with fail;refine(gj.out _ (ge.out.below hB)).mono ?_;rintro e w1⟨rfl,gh⟩;have N:=aD hB gh;have gx:=hid (ge.out.below N);have O:=gp.bl gh;clear a0 a1 a2 a3 b0 b1 b2 b3;obtain⟨x0,x1,x2,x3,-,-,-,-⟩:=ab O;obtain⟨b0,b1,b2,b3,-⟩:=gx.out;go_wp2_with fail;refine(gi.out _ gx.out).mono ?_;rintro e w2⟨rfl,gl⟩;go_wp2_with fail;go_ret;exact⟨by rw[J.out];rfl,aD N gl⟩
 have g5:al.length<=1000000000:=gr.out.len;have gm:=hid (show io (aa d) (dR names) (.mk 12 ⟨#[]⟩ [.mk 6 ⟨#[]⟩ al ap,b] np)=al.all (dQ (aa d) (dR names))by rw[HR.out];simp[h6]);have g3:=hid (fun(i:Nat)(h:i<al.length)(x:Nd)(hx:x∈al[i].kids)=>(gr.out.kid' (k:=al[i]) (gX h)).kid' hx);clear HR gr;cases g1:ah b;all_goals
  rw[g1]at gj h6;first
   |(rw[show(aa d).typ b=true from by simpa using h6]at gi)
   |skip
  clear h6 g1;(go_enter func28,ntmps28);go_wp2_with fail;refine(gj.out _ (ge.out.below hB)).mono ?_;rintro e w1⟨rfl,gh⟩;have N:=aD hB gh;have O:=gp.bl gh;clear a0 a1 a2 a3 b0 b1 b2 b3;obtain⟨x0,x1,x2,x3,-,-,-,-⟩:=ab O;obtain⟨b0,b1,b2,b3,-⟩:=ge.out.below N;obtain⟨a0,a1,a2,a3,-⟩:=gs.out.below N;simp only[Nd.kind_mk,Nd.text_mk,Nd.kids_mk,Nd.pos_mk]at a0 a1 a2 a3;clear hB gh gp gj;go_wp2_with fail;try
   refine(gi.out _ (ge.out.below N)).mono ?_
   rintro e w2⟨rfl,gl⟩
   replace N:=aD N gl
   replace O:=O.bl gl
   clear a0 a1 a2 a3 b0 b1 b2 b3 x0 x1 x2 x3
   obtain⟨x0,x1,x2,x3,-,-,-,-⟩:=ab O
   obtain⟨b0,b1,b2,b3,-⟩:=ge.out.below N
   obtain⟨a0,a1,a2,a3,-⟩:=gs.out.below N
   simp only[Nd.kind_mk,Nd.text_mk,Nd.kids_mk,Nd.pos_mk]at a0 a1 a2 a3
   go_wp2_with fail
  clear a0 a1 a2 a3 b0 b1 b2 b3 x0 x1 x2 x3 O gi ge;go_loopg [6] al.length (fun k u6 wr=>∃i:Nat,i<=al.length/\al.length-i<=k/\u6=.int .i64 (i:Int)/\Below w w wr/\(al.take i).all (dQ (aa d) (dR names))=true)
  case atStart=>exact⟨0,gP _,by omega,rfl,N,rfl⟩
  case round=>
   clear N;obtain⟨i,hi,hk,rfl,ga,gg⟩:=hrel;by_cases yk:i<al.length
   ·(have gu:(i:Int)<(al.length:Int):=by omega);(have h0:(0:Int)<=(i:Int):=by omega);obtain⟨bp,op,A2,c2,gz,hp⟩:=cE (gs.out.below ga).2.2.2.2 i yk;simp only[Nd.kids_mk]at hp;subst gz;have M:Hid (dQ (aa d) (dR names) al[i]=true->(al.take (i+1)).all (dQ (aa d) (dR names))=true):=hid (by intro h;rw[gZ yk,qQ,gg];simp[h]);have D:Hid (dQ (aa d) (dR names) al[i]=false->io (aa d) (dR names) (.mk 12 ⟨#[]⟩ [.mk 6 ⟨#[]⟩ al ap,b] np)=false):=hid (by intro h;rw[gm.out,vu];exact⟨_,gX yk,by simp[h]⟩);have gw:=hid (g3.out i yk);rw[G6]at M D;generalize al[i]=q at *;obtain⟨qk,qt,ql,qp⟩:=q;have HP:=hid hp;obtain⟨p0,p1,p2,p3,-⟩:=hp;simp only[Nd.kind_mk,Nd.text_mk,Nd.kids_mk,Nd.pos_mk]at M D gw p0 p1 p2 p3;clear gg;by_cases q1:qk=8
    rotate_left
    ·(have gb:(qk != 8)=true:=by simpa using q1);have J:=hid (D.out (by simp[q1]));clear q1 M D;go_wp2_with fail;go_ret;exact⟨by rw[J.out];rfl,ga⟩
    subst q1;by_cases q2:ql.length=1
    rotate_left
    ·(have gb:((ql.length:Int) != 1)=true:=by simp;omega);have J:=hid (D.out (by
      rcases ql with _|⟨x,_|⟨y,l⟩⟩
      ·simp
      ·exact absurd rfl q2
      ·simp))
     clear q2 M D;go_wp2_with fail;go_ret;exact⟨by rw[J.out];rfl,ga⟩
    obtain⟨x,rfl⟩:∃x,ql=[x]:=by
     rcases ql with _|⟨x,_|⟨y,l⟩⟩
     ·simp at q2
     ·exact⟨x,rfl⟩
     ·simp at q2
    clear q2;obtain⟨bx,ox,A3,c3,gy,hx⟩:=cE HP.out.2.2.2.2 0 (by simp);simp only[Nd.kids_mk,gT,jK,jD]at hx;subst gy;obtain⟨y0,y1,y2,y3,gt⟩:=hx;have U:=hid (gv.out _ x wr gt (gw.out x (by simp)));simp only at M D;clear gt;cases q3:(aa d).typ x with
    |false=>have J:=hid (D.out (by simp[q3]));rw[q3]at U;clear q3 M D;go_wp2_with fail;refine(U.out).mono ?_;rintro e w3⟨rfl,I⟩;go_wp2_with fail;go_ret;exact⟨by rw[J.out];rfl,aD ga I⟩
    | true=>
     rw[q3]at U M D;clear q3;cases names with
     | true=>
      cases q4:aE qt with
      |true=>
       have J:=hid (M.out (by simp[dR,q4]));clear M D;go_wp2_with fail;refine(U.out).mono ?_;rintro e w3⟨rfl,I⟩;have gd:=aD ga I;clear p0 p1 p2 p3 y0 y1 y2 y3 U;obtain⟨p0,p1,p2,p3,-⟩:=HP.out.below I;simp only[Nd.kind_mk,Nd.text_mk,Nd.pos_mk]at p0 p1 p3;go_wp2_with fail;refine(dS _ _).mono ?_;rw[q4];rintro e w4⟨rfl,gn⟩;go_wp2_with fail;go_roundg (al.length-(i+1))
       case measure=>omega
       case rel=>exact⟨i+1,by omega,gA _,by go_num,aD gd gn,J.out⟩
      |false=>have J:=hid (D.out (by simp[dR,q4]));clear M D;go_wp2_with fail;refine(U.out).mono ?_;rintro e w3⟨rfl,I⟩;have gd:=aD ga I;clear p0 p1 p2 p3 y0 y1 y2 y3 U;obtain⟨p0,p1,p2,p3,-⟩:=HP.out.below I;simp only[Nd.kind_mk,Nd.text_mk,Nd.pos_mk]at p0 p1 p3;go_wp2_with fail;refine(dS _ _).mono ?_;rw[q4];rintro e w4⟨rfl,gn⟩;go_wp2_with fail;go_ret;exact⟨by rw[J.out];rfl,aD gd gn⟩
     | false=>
      by_cases q4:qt=⟨#[]⟩
      ·subst q4;have J:=hid (M.out (by simp[dR,dV]));clear M D;go_wp2_with fail;refine(U.out).mono ?_;rintro e w3⟨rfl,I⟩;have gd:=aD ga I;clear p0 p1 p2 p3 y0 y1 y2 y3 U;obtain⟨p0,p1,p2,p3,-⟩:=HP.out.below I;simp only[Nd.kind_mk,Nd.text_mk,Nd.pos_mk]at p0 p1 p3;go_wp2_with fail;go_roundg (al.length-(i+1))
       case measure=>omega
       case rel=>exact⟨i+1,by omega,gA _,by go_num,gd,J.out⟩
      ·(have gb:qt.toList.isEmpty=false:=by rw[aq];simpa using q4);have J:=hid (D.out (by simp[dR,dV,q4]));clear M D q4;go_wp2_with fail;refine(U.out).mono ?_;rintro e w3⟨rfl,I⟩;have gd:=aD ga I;clear p0 p1 p2 p3 y0 y1 y2 y3 U;obtain⟨p0,p1,p2,p3,-⟩:=HP.out.below I;simp only[Nd.kind_mk,Nd.text_mk,Nd.pos_mk]at p0 p1 p3;go_wp2_with fail;go_ret;exact⟨by rw[J.out];rfl,gd⟩
   ·(have gu:¬ (i:Int)<(al.length:Int):=by omega);have J:Hid (io (aa d) (dR names) (.mk 12 ⟨#[]⟩ [.mk 6 ⟨#[]⟩ al ap,b] np)=true):=hid (by rw[gm.out,<-gg,jA (by omega)]);clear gg;go_wp2_with fail;go_ret;exact⟨by rw[J.out];rfl,ga⟩
def mB:Nat->Nd->Nat
 |0,_=>0
 |g+1,n=>(n.kids.map (mB g)).foldl max 0+1
theorem ss{b:Nat}:∀(l:List Nat)(a:Nat),a<=b->(∀x∈l,x<=b)->l.foldl max a<=b
 |[],a,h,_=>h
 |x::l,a,h,D=>ss l (max a x) (Nat.max_le.2 ⟨h,D x (by simp)⟩) fun y hy=>D y (by simp[hy])
theorem Fy:∀(g:Nat)(n:Nd),mB g n<=g
 |0,_=>gA _
 |g+1,n=>by have:=ss (b:=g) (n.kids.map (mB g)) 0 (gP _) (fun x hx=>by obtain⟨k,_,rfl⟩:=List.mem_map.1 hx;exact Fy g k);unfold mB;omega
theorem wv(l:List Nat):∀a m,l.foldl max a<=m↔a<=m/\∀x∈l,x<=m:=by
 induction l with
 |nil=>intro a m;simp
 |cons x l ih=>
  intro a m;rw[vr,ih,Nat.max_le];simp only[qS,forall_eq_or_imp];constructor
  ·rintro⟨⟨J,I⟩,D⟩;exact⟨J,I,D⟩
  ·rintro⟨J,I,D⟩;exact⟨⟨J,I⟩,D⟩
theorem ww:∀(g:Nat)(n:Nd)(m:Nat),mB g n<=m↔∀x∈aP g n,g+1-x<=m
 |0,n,m=>by simp[mB,aP]
 |g+1,n,0=>by
  rw[aP,mB];constructor
  ·intro h;omega
  ·intro h;have:=h (g+1) List.mem_cons_self;omega
 | g+1,n,m+1=>by
  rw[aP,mB,Nat.add_le_add_iff_right,wv];constructor
  ·rintro⟨-,h⟩x D;rcases List.mem_cons.1 D with rfl|D
   ·omega
   ·obtain⟨k,I,D⟩:=List.mem_flatMap.1 D;have:=(ww g k m).1 (h _ (List.mem_map.2 ⟨k,I,rfl⟩)) x D;omega
  ·intro h;refine⟨gP _,fun y hy=>?_⟩;obtain⟨k,I,rfl⟩:=List.mem_map.1 hy;refine(ww g k m).2 fun x D=>?_;have:=h x (qq _ (List.mem_flatMap.2 ⟨k,I,D⟩));omega
theorem C7(n:Nd):mB 101 n<=100↔eN n<=100:=by
 rw[ww,eN,mU];constructor
 ·intro h;exact⟨gP _,fun x hx=>by have:=h x hx;omega⟩
 ·rintro⟨-,h⟩x hx;have:=h x hx;omega
theorem EB:∀(d:Nat)(v:Value)(n:Nd)(w:World),d<=1000->aF w v n->sF d n ->
  Calls prog 21 #[v,(d:Int)] w fun e w'=>e=.returned (.int .i64 ((mB d n:Nat):Int))/\Below w w w':=by
 intro d;induction d with
 |zero=>intro v n w _ hv _;obtain⟨A,cp,rfl,N⟩:=hv.toC;clear hv N;have hB:=(aj w #[n.kind,n.text,.slice A n.kids.length cp,n.pos]).1;(go_enter func21,ntmps21);go_wp2_with fail;go_ret;exact⟨rfl,hB⟩
 | succ d ih=>
  intro v n w hd hv hw;have HV:=hid hv;have HW:=hid hw;have HI:=hid ih;have gb:=hw.1.1;obtain⟨A,cp,rfl,N⟩:=hv.toC;clear hv N hw ih;have hB:=(aj w #[n.kind,n.text,.slice A n.kids.length cp,n.pos]).1;have J:=(aj w #[n.kind,n.text,.slice A n.kids.length cp,n.pos]).2;(have hz:((d:Int)+1==0)=false:=by simp;omega);have hT:Hid (mB (d+1) n=(n.kids.map (mB d)).foldl max 0+1):=hid rfl;(go_enter func21,ntmps21);go_wp2_with fail;go_loopg [5,6] n.kids.length (fun g1 u5 u6 wr=>∃(i m:Nat),i<=n.kids.length/\n.kids.length-i<=g1/\u6=.int .i64 (i:Int)/\u5=.int .i64 (m:Int)/\m=((n.kids.take i).map (mB d)).foldl max 0/\m<=d/\Below w w wr/\an wr w.heap.size 24 #[n.kind,n.text,.slice A n.kids.length cp,n.pos])
  case atStart=>exact⟨0,0,gP _,by omega,rfl,rfl,rfl,gP _,hB,J⟩
  case round=>
   clear J hB;obtain⟨i,m,hi,hg,rfl,rfl,h,ga,hB,J⟩:=hrel;have HM:=hid h;clear h;obtain⟨x0,x1,x2,x3,-,-,-,-⟩:=ab J;by_cases D:i<n.kids.length
   ·(have M:(i:Int)<(n.kids.length:Int):=by omega);(have h0:(0:Int)<=(i:Int):=by omega);obtain⟨bp,op,A1,ge,rfl,U⟩:=cE (af.below HV.out hB) i D;have HK:Hid (max m (mB d n.kids[i])=((n.kids.take (i+1)).map (mB d)).foldl max 0):=hid (by rw[gZ D,kT,List.foldl_append,<-HM.out];rfl);have gd:=Fy d n.kids[i];have HC:=hid (HI.out _ n.kids[i] wr (by omega) U.2.2.2.2 (HW.out.2 _ (gX D)));generalize n.kids[i]=x at *;generalize mB d x=q at *;obtain⟨k0,k1,k2,k3,-⟩:=U;go_wp2_with fail;refine HC.out.mono ?_;rintro e w2⟨rfl,I⟩;have O:=aD hB I;have b2:=J.bl I;clear I J HC k0 k1 k2 k3 x0 x1 x2 x3;go_wp2_with fail;go_roundg (n.kids.length-(i+1))
    case measure=>omega
    case rel=>exact⟨i+1,max m q,by omega,gA _,by go_num,by go_num,HK.out,by omega,O,b2⟩
   ·(have M:¬ (i:Int)<(n.kids.length:Int):=by omega);have HE:Hid (m+1=mB (d+1) n):=hid (by rw[hT.out,HM.out,jA (by omega)]);go_wp2_with fail;go_ret;exact⟨by rw[<-HE.out];go_num,hB⟩
def ov(f:Nd->Bool):List Nd->Bool
 |[x]=>f x
 |_=>false
theorem eS(f:Nd->Bool)(x:Nd):ov f [x]=f x:=rfl
theorem ow(f:Nd->Bool){l:List Nd}(h:l.length≠1):ov f l=false:=by
 rcases l with _|⟨x,_|⟨y,l⟩⟩
 ·rfl
 ·exact absurd rfl h
 ·rfl
theorem rC{l:List Nd}(h:l.length=1):∃x,l=[x]:=by
 rcases l with _|⟨x,_|⟨y,l⟩⟩
 ·simp at h
 ·exact⟨x,rfl⟩
 ·simp at h
theorem th(k:Int)(f:Nd->Bool)(n:Nd):cA k [f] n=(decide (n.kind=k)&&(decide (n.text=(⟨#[]⟩:BA))&&ov f n.kids)):=by
 unfold cA;congr 2;rcases n.kids with _|⟨x,_|⟨y,l⟩⟩
 ·rfl
 ·simp[aY,ov]
 ·simp[aY,ov]
theorem Ra(F:cQ)(t:ByteArray)(l:List Nd)(p:Int):dA F (.mk 10 t l p)=(aE t&&l.all F.typ):=by simp[dA]
theorem Rb(F:cQ)(t:ByteArray)(l:List Nd)(p:Int):dA F (.mk 11 t l p)=(decide (t=(⟨#[]⟩:BA))&&ov F.typ l):=by(have h:dA F (.mk 11 t l p)=cA 11 [F.typ] (.mk 11 t l p):=by simp[dA]);rw[h,th];simp;rfl
theorem Rc(F:cQ)(t:ByteArray)(l:List Nd)(p:Int):dA F (.mk 12 t l p)=io F dV (.mk 12 t l p):=by simp[dA]
theorem Ae(F:cQ)(k:Int)(t:ByteArray)(l:List Nd)(p:Int)(J:k≠10)(I:k≠11)(D:k≠12):dA F (.mk k t l p)=false:=by simp[dA,J,I,D]
theorem NO:∀d,Bj d 25 (aa d).typ:=by
 intro d;induction d with
 |zero=>exact fun _ _ _ _ h=>h.elim
 | succ d ih=>
  intro v n w hv hd;rw[show(aa (d+1)).typ n=dA (aa d) n from rfl];have HI:=hid ih;have HV:=hid hv;have HD:=hid hd;have gr:=hd.1.1;obtain⟨A,cp,rfl,hC⟩:=hv.toC;have hB:=(aj w #[n.kind,n.text,.slice A n.kids.length cp,n.pos]).1;have O:=(aj w #[n.kind,n.text,.slice A n.kids.length cp,n.pos]).2;have gg:=hid (fun w'(hb:Below w w w')=>CX d ih false _ n w' (af.below hv hb) hd);clear hv hC hd ih;generalize aa d=F at *;obtain⟨nk,nt,nl,np⟩:=n;simp only[Nd.kind_mk,Nd.text_mk,Nd.kids_mk,Nd.pos_mk]at *;by_cases h1:nk=10
  ·subst h1;have D:=hid (show dA F (.mk 10 nt nl np)=(aE nt&&nl.all F.typ)from Ra _ _ _ _);clear gg;cases M:aE nt with
   |false=>have J:Hid (dA F (.mk 10 nt nl np)=false):=hid (by rw[D.out,M,jG]);(go_enter func25,ntmps25);go_wp2_with fail;refine(dS _ _).mono ?_;rw[M];rintro e w1⟨rfl,ga⟩;go_wp2_with fail;go_ret;exact⟨by rw[J.out];rfl,aD hB ga⟩
   | true=>
    have gi:Hid (dA F (.mk 10 nt nl np)=nl.all F.typ):=hid (by rw[D.out,M,kK]);clear D;(go_enter func25,ntmps25);go_wp2_with fail;refine(dS _ _).mono ?_;rw[M];rintro e w1⟨rfl,ga⟩;have gl:=aD hB ga;have gh:=O.bl ga;clear hB O ga M;go_wp2_with fail;go_loopg [3] nl.length (fun k u3 wr=>∃i:Nat,i<=nl.length/\nl.length-i<=k/\u3=.int .i64 (i:Int)/\Below w w wr/\an wr w.heap.size 24 #[.int .i64 10,.string nt,.slice A nl.length cp,.int .i64 np]/\(nl.take i).all F.typ=true)
    case atStart=>exact⟨0,gP _,by omega,rfl,gl,gh,rfl⟩
    case round=>
     clear gl gh;obtain⟨i,hi,hk,rfl,ge,O,N⟩:=hrel;obtain⟨x0,x1,x2,x3,-,-,-,-⟩:=ab O;by_cases gd:i<nl.length
     ·(have yk:(i:Int)<(nl.length:Int):=by omega);(have h0:(0:Int)<=(i:Int):=by omega);obtain⟨bp,op,A2,c2,gp,hp⟩:=cE (af.below HV.out ge) i gd;simp only[Nd.kids_mk]at hp;subst gp;have gj:Hid (F.typ nl[i]=true->(nl.take (i+1)).all F.typ=true):=hid (by intro h;rw[gZ gd,qQ,N];simp[h]);have gb:Hid (F.typ nl[i]=false->dA F (.mk 10 nt nl np)=false):=hid (by intro h;rw[gi.out,vu];exact⟨_,gX gd,by simp[h]⟩);have gq:=hid (HD.out.kid (k:=nl[i]) (gX gd));generalize nl[i]=q at *;have U:=hid (HI.out _ q wr hp.2.2.2.2 gq.out);obtain⟨p0,p1,p2,p3,-⟩:=hp;clear N;cases q3:F.typ q with
      |false=>have J:=hid (gb.out q3);rw[q3]at U;clear q3 gj gb;go_wp2_with fail;refine(U.out).mono ?_;rintro e w3⟨rfl,I⟩;go_wp2_with fail;go_ret;exact⟨by rw[J.out];rfl,aD ge I⟩
      |true=>
       have J:=hid (gj.out q3);rw[q3]at U;clear q3 gj gb;go_wp2_with fail;refine(U.out).mono ?_;rintro e w3⟨rfl,I⟩;go_wp2_with fail;go_roundg (nl.length-(i+1))
       case measure=>omega
       case rel=>exact⟨i+1,by omega,gA _,by go_num,aD ge I,O.bl I,J.out⟩
     ·(have yk:¬ (i:Int)<(nl.length:Int):=by omega);have J:Hid (dA F (.mk 10 nt nl np)=true):=hid (by rw[gi.out,<-N,jA (by omega)]);clear N;go_wp2_with fail;go_ret;exact⟨by rw[J.out];rfl,ge⟩
  by_cases M:nk=11
  ·subst M;have D:=hid (show dA F (.mk 11 nt nl np)=(decide (nt=(⟨#[]⟩:BA))&&ov F.typ nl)from Rb _ _ _ _);clear gg h1;by_cases M:nt=⟨#[]⟩
   rotate_left
   ·(have gn:nt.toList.isEmpty=false:=by rw[aq];simpa using M);have J:Hid (dA F (.mk 11 nt nl np)=false):=hid (by rw[D.out];simp[M]);clear D M;(go_enter func25,ntmps25);go_wp2_with fail;go_ret;exact⟨by rw[J.out];rfl,hB⟩
   subst M;by_cases h3:nl.length=1
   rotate_left
   ·(have gn:((nl.length:Int)==1)=false:=by simp;omega);have J:Hid (dA F (.mk 11 ⟨#[]⟩ nl np)=false):=hid (by rw[D.out,ow _ h3,jU]);clear D h3;generalize nl.length=m at *;(go_enter func25,ntmps25);go_wp2_with fail;go_ret;exact⟨by rw[J.out];rfl,hB⟩
   obtain⟨x,rfl⟩:=rC h3;clear h3;have J:Hid (dA F (.mk 11 ⟨#[]⟩ [x] np)=F.typ x):=hid (by rw[D.out,eS];simp);have gm:aF w (.agg #[.int .i64 11,.string ⟨#[]⟩,.slice A 1 cp,.int .i64 np]) (.mk 11 ⟨#[]⟩ [x] np):=HV.out;have hB:Below w w (w.alloc (.cells #[.int .i64 11,.string ⟨#[]⟩,.slice A 1 cp,.int .i64 np] 24)):=hB;obtain⟨bp,op,A2,c2,rfl,hp⟩:=cE (af.below gm hB) 0 (by simp);simp only[Nd.kids_mk,gT,jK,jD]at hp;have U:=hid (HI.out _ x _ hp.2.2.2.2 (HD.out.kid (k:=x) (by simp)));obtain⟨p0,p1,p2,p3,-⟩:=hp;clear D gm HV;(go_enter func25,ntmps25);go_wp2_with fail;refine(U.out).mono ?_;rintro e w3⟨rfl,I⟩;go_wp2_with fail;go_ret;exact⟨by rw[J.out];rfl,aD hB I⟩
  by_cases h3:nk=12
  ·subst h3;have J:=hid (show dA F (.mk 12 nt nl np)=io F (dR false) (.mk 12 nt nl np)from Rc _ _ _ _);obtain⟨x0,x1,x2,x3,-,-,-,-⟩:=ab O;clear h1 M;(go_enter func25,ntmps25);go_wp2_with fail;refine(gg.out _ hB).mono ?_;rintro e w3⟨rfl,I⟩;go_wp2_with fail;go_ret;exact⟨by rw[J.out];rfl,aD hB I⟩
  have J:Hid (dA F (.mk nk nt nl np)=false):=hid (Ae _ _ _ _ _ h1 M h3);(have e1:(nk==10)=false:=by simpa using h1);(have e2:(nk==11)=false:=by simpa using M);(have e3:(nk==12)=false:=by simpa using h3);clear h1 M h3 gg;(go_enter func25,ntmps25);go_wp2_with fail;go_ret;exact⟨by rw[J.out];rfl,hB⟩
theorem ti(k:Int)(f:Nd->Bool)(so:ByteArray->Bool)(p:Nd):cA k [f] (au so p)=(decide (p.kind=k)&&(ov f p.kids&&so p.text)):=by
 obtain⟨j,t,l,a⟩:=p;rw[show au so (.mk j t l a)=if so t=true then .mk j ⟨#[]⟩ l a else .mk 37 ⟨#[]⟩ [] 0 from rfl];by_cases hs:so t=true
 ·rw[gF hs,th];simp[hs];rfl
 ·rw[d5 hs,th];rw[qW]at hs;simp[hs,ov]
theorem wW(d:Nat)(hT:Bj d 27 (aa d).stmt):∀(v:Value)(n:Nd)(w:World),aF w v n->dK (d+1) n->Calls prog 47 #[v] w fun e w'=>e=.returned (.bool (bD (aa d) n))/\Below w w w':=by
 intro v n w hv hd;have HV:=hid hv;have HD:=hid hd;have gj:=hd.1.1;obtain⟨A,cp,rfl,hC⟩:=hv.toC;have hB:=(aj w #[n.kind,n.text,.slice A n.kids.length cp,n.pos]).1;have I:=(aj w #[n.kind,n.text,.slice A n.kids.length cp,n.pos]).2;have H0:=hid hT;clear hv hC hd hT;generalize aa d=F at *;obtain⟨nk,nt,nl,np⟩:=n;simp only[Nd.kind_mk,Nd.text_mk,Nd.kids_mk,Nd.pos_mk]at *;by_cases h1:nk=36
 rotate_left
 ·(have gg:(nk != 36)=true:=by simpa using h1);have U:Hid (bD F (.mk nk nt nl np)=false):=hid (by simp[bD,h1]);clear h1;(go_enter func47,ntmps47);go_wp2_with fail;go_ret;exact⟨by rw[U.out];rfl,hB⟩
 subst h1;by_cases h2:nt=⟨#[]⟩
 rotate_left
 ·(have gg:nt.toList.isEmpty=false:=by rw[aq];simpa using h2);have U:Hid (bD F (.mk 36 nt nl np)=false):=hid (by simp[bD,h2]);clear h2;(go_enter func47,ntmps47);go_wp2_with fail;go_ret;exact⟨by rw[U.out];rfl,hB⟩
 subst h2;have gb:Hid (bD F (.mk 36 ⟨#[]⟩ nl np)=nl.all F.stmt):=hid (by simp[bD]);(go_enter func47,ntmps47);go_wp2_with fail;go_loopg [3] nl.length (fun k u3 wr=>∃i:Nat,i<=nl.length/\nl.length-i<=k/\u3=.int .i64 (i:Int)/\Below w w wr/\an wr w.heap.size 24 #[.int .i64 36,.string ⟨#[]⟩,.slice A nl.length cp,.int .i64 np]/\(nl.take i).all F.stmt=true)
 case atStart=>exact⟨0,gP _,by omega,rfl,hB,I,rfl⟩
 case round=>
  clear hB I;obtain⟨i,hi,hk,rfl,O,I,D⟩:=hrel;obtain⟨x0,x1,x2,x3,-,-,-,-⟩:=ab I;by_cases M:i<nl.length
  ·(have ge:(i:Int)<(nl.length:Int):=by omega);(have h0:(0:Int)<=(i:Int):=by omega);obtain⟨bp,op,A2,c2,gh,hp⟩:=cE (af.below HV.out O) i M;simp only[Nd.kids_mk]at hp;subst gh;have gd:Hid (F.stmt nl[i]=true->(nl.take (i+1)).all F.stmt=true):=hid (by intro h;rw[gZ M,qQ,D];simp[h]);have J:Hid (F.stmt nl[i]=false->bD F (.mk 36 ⟨#[]⟩ nl np)=false):=hid (by intro h;rw[gb.out,vu];exact⟨_,gX M,by simp[h]⟩);have gi:=hid (HD.out.kid (k:=nl[i]) (gX M));generalize nl[i]=q at *;have ga:=hid (H0.out _ q wr hp.2.2.2.2 gi.out);obtain⟨p0,p1,p2,p3,-⟩:=hp;clear D;cases q3:F.stmt q with
   |false=>have U:=hid (J.out q3);rw[q3]at ga;clear q3 gd J;go_wp2_with fail;refine(ga.out).mono ?_;rintro e w3⟨rfl,N⟩;go_wp2_with fail;go_ret;exact⟨by rw[U.out];rfl,aD O N⟩
   |true=>
    have U:=hid (gd.out q3);rw[q3]at ga;clear q3 gd J;go_wp2_with fail;refine(ga.out).mono ?_;rintro e w3⟨rfl,N⟩;go_wp2_with fail;go_roundg (nl.length-(i+1))
    case measure=>omega
    case rel=>exact⟨i+1,by omega,gA _,by go_num,aD O N,I.bl N,U.out⟩
  ·(have ge:¬ (i:Int)<(nl.length:Int):=by omega);have U:Hid (bD F (.mk 36 ⟨#[]⟩ nl np)=true):=hid (by rw[gb.out,<-D,jA (by omega)]);clear D;go_wp2_with fail;go_ret;exact⟨by rw[U.out];rfl,O⟩
theorem oy(d:Nat)(hT:Bj d 26 (aa d).expr)(A:Option Addr)(cp:Nat)(nl:List Nd)(w:World)(hv:i9 w (.slice A nl.length cp) nl)(hd:∀n∈nl,dK d n)(gg:nl.length<=1000000000):
  Calls prog 51 #[.slice A nl.length cp] w fun e w'=>e=.returned (.bool (nl.all (aa d).expr))/\Below w w w':=by
 have HV:=hid hv;have HD:=hid hd;have H0:=hid hT;clear hv hd hT;generalize aa d=F at *;have HR:Hid (nl.all F.expr=nl.all F.expr):=hid rfl;generalize hres:nl.all F.expr=res at HR |-;have O:=hid hres;clear hres HR;(go_enter func51,ntmps51);go_wp2_with fail;go_loopg [3] nl.length (fun k u3 wr=>∃i:Nat,i<=nl.length/\nl.length-i<=k/\u3=.int .i64 (i:Int)/\Below w w wr/\(nl.take i).all F.expr=true)
 case atStart=>exact⟨0,gP _,by omega,rfl,gG _ _,rfl⟩
 case round=>
  obtain⟨i,hi,hk,rfl,M,D⟩:=hrel;by_cases J:i<nl.length
  ·(have gd:(i:Int)<(nl.length:Int):=by omega);(have h0:(0:Int)<=(i:Int):=by omega);obtain⟨-,b,off,A1,c1,rfl,gh,p0,p1,p2,p3,gb⟩:=i9.at_ (cS.below HV.out M) i J;have ga:Hid (F.expr nl[i]=true->(nl.take (i+1)).all F.expr=true):=hid (by intro h;rw[gZ J,qQ,D];simp[h]);have I:Hid (F.expr nl[i]=false->res=false):=hid (by intro h;rw[<-O.out,vu];exact⟨_,gX J,by simp[h]⟩);have ge:=hid (HD.out nl[i] (gX J));generalize nl[i]=q at *;have N:=hid (H0.out _ q wr gb ge.out);clear D gb;cases q3:F.expr q with
   |false=>obtain rfl:=I.out q3;rw[q3]at N;clear q3 ga I;go_wp2_with fail;refine(N.out).mono ?_;rintro e w3⟨rfl,U⟩;go_wp2_with fail;go_ret;exact⟨rfl,aD M U⟩
   |true=>
    have HX:=hid (ga.out q3);rw[q3]at N;clear q3 ga I;go_wp2_with fail;refine(N.out).mono ?_;rintro e w3⟨rfl,U⟩;go_wp2_with fail;go_roundg (nl.length-(i+1))
    case measure=>omega
    case rel=>exact⟨i+1,by omega,gA _,by go_num,aD M U,HX.out⟩
  ·(have gd:¬ (i:Int)<(nl.length:Int):=by omega);(obtain rfl:res=true:=by rw[<-O.out,<-D,jA (by omega)]);clear D;go_wp2_with fail;go_ret;exact⟨rfl,M⟩
end
end Go.Proofs.YtiebcdeafofgdaaGreatDoor
