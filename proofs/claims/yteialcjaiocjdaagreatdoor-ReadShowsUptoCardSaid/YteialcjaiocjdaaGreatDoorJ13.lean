/-
  Parts of the proof: Usig Udepth Utyp Uinter. By an AI agent.
-/
import Derived.Test.YteialcjaiocjdaaGreatDoorJ12
import Derived.Test.YteialcjaiocjdaaGreatDoorJ09
open Go.Proofs.Tryz
set_option maxRecDepth 100000
set_option maxHeartbeats 8000000
namespace Go.Proofs.YteialcjaiocjdaaGreatDoor
section
open Go.RowKit Go.Lib Go.Proofs
attribute [local go_sem ↓] Go.wp_at_zero Go.wp_at_succ
theorem kC:type_of% @List.getElem_cons_succ:=@List.getElem_cons_succ
theorem kU:type_of% @List.all_append:=@List.all_append
theorem qg:type_of% @List.all_eq_false:=@List.all_eq_false
theorem qz:type_of% @Bool.not_eq_true:=@Bool.not_eq_true
theorem qJ:type_of% @Bool.and_true:=@Bool.and_true
def tg(d:Nat)(f:FuncId)(P:Nd->Bool):Prop:=∀(v:Value)(n:Nd)(w:World),aF w v n->df d n->Calls prog f #[v] w fun e w'=>e=.returned (.bool (P n))/\Below w w w'
theorem Iw(F:cm)(so:ByteArray->Bool)(p:Nd):d4 F so p=(decide (p.kind=8)&&((match p.kids with|[x]=>F.typ x|_=>false)&&so p.text)):=by
 obtain⟨k,t,l,a⟩:=p;unfold d4;rw[show aw so (.mk k t l a)=if so t=true then .mk k ⟨#[]⟩ l a else .mk 37 ⟨#[]⟩ [] 0 from rfl];by_cases hs:so t=true
 ·rw[gG hs];unfold cE;rcases l with _|⟨x,_|⟨y,l⟩⟩<;>simp[hs,a6]<;>rfl
 ·rw[gB hs];rw[qz]at hs;simp[hs,cE]
theorem PP(F:cm)(so:ByteArray->Bool)(n:Nd):il F so n=(decide (n.kind=12)&&(decide (n.text=(⟨#[]⟩:BA))&&(match n.kids with|[a,b]=>decide (a.kind=6)&&(decide (a.text=(⟨#[]⟩:BA))&&((an b||F.typ b)&&a.kids.all (d4 F so)))|_=>false))):=by
 obtain⟨k,t,l,p⟩:=n;unfold il cE;simp only[Nd.text_mk,Nd.kind_mk,Nd.kids_mk];congr 2;rcases l with _|⟨a,_|⟨b,_|⟨c,l⟩⟩⟩
 ·rfl
 ·simp[a6]
 ·simp only[a6,iv,ck,qJ];rw[Bool.and_assoc,Bool.and_assoc,Bool.and_comm (x:=a.kids.all _)]
 ·simp[a6]
def C4(w:World)(b o:Nat)(x:Nd)(A:Option Addr)(c:Nat):Prop:=
 w.cell? ⟨b,o,none⟩=some (.int .i64 x.kind)/\w.cell? ⟨b,o+1,none⟩=some (.string x.text)/\w.cell? ⟨b,o+2,none⟩=some (.slice A x.kids.length c)/\w.cell? ⟨b,o+3,none⟩=some (.int .i64 x.pos) /\
  aF w (.agg #[x.kind,x.text,.slice A x.kids.length c,x.pos]) x
theorem C4.below{w w':World}{b o:Nat}{x:Nd}{A:Option Addr}{c:Nat}(h:C4 w b o x A c)(hb:Below w w w'):C4 w' b o x A c:=by obtain⟨M,J,I,D,N⟩:=h;exact⟨(hb.cell (jD w _ M)).trans M,(hb.cell (jD w _ J)).trans J,(hb.cell (jD w _ I)).trans I,(hb.cell (jD w _ D)).trans D,af.below N hb⟩
theorem bC{w:World}{A:Option Addr}{k p:Int}{t:ByteArray}{m cp:Nat}{n:Nd}(h:aF w (.agg #[k,t,.slice A m cp,p]) n)(i:Nat)(J:i<n.kids.length):
  ∃b off I D,A=some ⟨b,off,none⟩/\C4 w b (off+i*4) n.kids[i] I D:=by obtain⟨b,off,I,D,e,_,_,h0,U,O,N,M⟩:=(af.kidsV h).kid i J;exact⟨b,off,I,D,e,h0,U,O,N,M⟩
theorem df.kid'{g:Nat}{n k:Nd}(h:df g n)(D:k∈n.kids):df g k:=by
 cases g with
 |zero=>exact h.elim
 |succ g=>exact(h.kid D).succ
def dF(b:Bool):ByteArray->Bool:=if b then aB else ec
theorem wJ(d:Nat)(HT:tg d 16 (aa d).typ)(names:Bool)(v:Value)(n:Nd)(w:World)(hv:aF w v n)(hd:df (d+1) n):
  Calls prog 19 #[v,.bool names] w fun e w'=>e=.returned (.bool (il (aa d) (dF names) n))/\Below w w w':=by
 obtain⟨A,cp,rfl,hC⟩:=hv.toC;have HR:=hid (PP (aa d) (dF names) n);have hB:=(aj w #[n.kind,n.text,.slice A n.kids.length cp,n.pos]).1;have HV:=hid hv;have HD:=hid hd;have gv:=hid HT;have g4:=hd.1.1;clear hv hC hd HT;obtain⟨nk,nt,nl,np⟩:=n;simp only[Nd.kind_mk,Nd.text_mk,Nd.kids_mk,Nd.pos_mk]at *;by_cases h1:nk=12
 rotate_left
 ·(have gb:(nk != 12)=true:=by simpa using h1);have J:Hid (il (aa d) (dF names) (.mk nk nt nl np)=false):=hid (by rw[HR.out];simp[h1]);clear HR h1;(go_enter func19,ntmps19);go_wp2_with fail;go_ret;exact⟨by rw[J.out];rfl,hB⟩
 subst h1;by_cases h2:nt=⟨#[]⟩
 rotate_left
 ·(have gb:nt.toList.isEmpty=false:=by rw[ao];simpa using h2);have J:Hid (il (aa d) (dF names) (.mk 12 nt nl np)=false):=hid (by rw[HR.out];simp[h2]);clear HR h2;(go_enter func19,ntmps19);go_wp2_with fail;go_ret;exact⟨by rw[J.out];rfl,hB⟩
 subst h2;by_cases h3:nl.length=2
 rotate_left
 ·(have gb:((nl.length:Int) != 2)=true:=by simp;omega);have J:Hid (il (aa d) (dF names) (.mk 12 ⟨#[]⟩ nl np)=false):=hid (by
   rw[HR.out];rcases nl with _|⟨a,_|⟨b,_|⟨c,l⟩⟩⟩
   ·simp
   ·simp
   ·exact absurd rfl h3
   ·simp)
  clear HR h3;generalize nl.length=m at *;(go_enter func19,ntmps19);go_wp2_with fail;go_ret;exact⟨by rw[J.out];rfl,hB⟩
 obtain⟨a,b,rfl⟩:∃a b,nl=[a,b]:=by
  rcases nl with _|⟨a,_|⟨b,_|⟨c,l⟩⟩⟩
  ·simp at h3
  ·simp at h3
  ·exact⟨a,b,rfl⟩
  ·simp at h3
 clear h3;have gr:Hid (df d a):=hid (HD.out.kid (k:=a) (by simp));have g0:Hid (df d b):=hid (HD.out.kid (k:=b) (by simp));have hB:Below w w (w.alloc (.cells #[.int .i64 12,.string ⟨#[]⟩,.slice A 2 cp,.int .i64 np] 24)):=hB;have gq:aF w (.agg #[.int .i64 12,.string ⟨#[]⟩,.slice A 2 cp,.int .i64 np]) (.mk 12 ⟨#[]⟩ [a,b] np):=HV.out;have gp:aq (w.alloc (.cells #[.int .i64 12,.string ⟨#[]⟩,.slice A 2 cp,.int .i64 np] 24)) w.heap.size 24 #[.int .i64 12,.string ⟨#[]⟩,.slice A 2 cp,.int .i64 np]:=aq.new w _ _;obtain⟨bk,off,A0,c0,rfl,ha⟩:=bC gq 0 (by simp);obtain⟨bk',off',A1,c1,e,hb⟩:=bC gq 1 (by simp);injection e with e;injection e with e1 e2;subst e1 e2;simp only[Nd.kids_mk,gN,kC,jF,gZ,qe]at ha hb;have gs:=hid ha;have ge:=hid hb;obtain⟨a0,a1,a2,a3,-⟩:=ha.below hB;obtain⟨b0,b1,b2,b3,-⟩:=hb.below hB;clear HV gq HD ha hb;obtain⟨ak,atx,al,ap⟩:=a;simp only[Nd.kind_mk,Nd.text_mk,Nd.kids_mk,Nd.pos_mk]at *;by_cases h4:ak=6
 rotate_left
 ·(have gb:(ak != 6)=true:=by simpa using h4);have J:Hid (il (aa d) (dF names) (.mk 12 ⟨#[]⟩ [.mk ak atx al ap,b] np)=false):=hid (by rw[HR.out];simp[h4]);clear HR h4;(go_enter func19,ntmps19);go_wp2_with fail;go_ret;exact⟨by rw[J.out];rfl,hB⟩
 subst h4;by_cases h5:atx=⟨#[]⟩
 rotate_left
 ·(have gb:atx.toList.isEmpty=false:=by rw[ao];simpa using h5);have J:Hid (il (aa d) (dF names) (.mk 12 ⟨#[]⟩ [.mk 6 atx al ap,b] np)=false):=hid (by rw[HR.out];simp[h5]);clear HR h5;(go_enter func19,ntmps19);go_wp2_with fail;go_ret;exact⟨by rw[J.out];rfl,hB⟩
 subst h5;have gj:=hid (fun w'(h:C4 w' bk (off+4) b A1 c1)=>eI _ b w' h.2.2.2.2);have gi:=hid (fun w'(h:C4 w' bk (off+4) b A1 c1)=>gv.out _ b w' h.2.2.2.2 g0.out);by_cases h6:(an b||(aa d).typ b)=true
 rotate_left
 ·have J:Hid (il (aa d) (dF names) (.mk 12 ⟨#[]⟩ [.mk 6 ⟨#[]⟩ al ap,b] np)=false):=hid (by rw[qz]at h6;rw[HR.out];simp[h6]);simp only[gI,not_or,qz]at h6;obtain⟨g1,g2⟩:=h6;rw[g1]at gj;rw[g2]at gi;clear HR g1 g2;(go_enter func19,ntmps19);go_wp2_with fail;refine(gj.out _ (ge.out.below hB)).mono ?_;rintro e w1⟨rfl,gh⟩;have N:=au hB gh;have gx:=hid (ge.out.below N);have O:=gp.bl gh;clear a0 a1 a2 a3 b0 b1 b2 b3;obtain⟨x0,x1,x2,x3,-,-,-,-⟩:=ab O;obtain⟨b0,b1,b2,b3,-⟩:=gx.out;go_wp2_with fail;refine(gi.out _ gx.out).mono ?_;rintro e w2⟨rfl,gl⟩;go_wp2_with fail;go_ret;exact⟨by rw[J.out];rfl,au N gl⟩
 have g5:al.length<=1000000000:=gr.out.len;have gm:=hid (show il (aa d) (dF names) (.mk 12 ⟨#[]⟩ [.mk 6 ⟨#[]⟩ al ap,b] np)=al.all (d4 (aa d) (dF names))by rw[HR.out];simp[h6]);have g3:=hid (fun(i:Nat)(h:i<al.length)(x:Nd)(hx:x∈al[i].kids)=>(gr.out.kid' (k:=al[i]) (gS h)).kid' hx);clear HR gr;cases g1:an b;all_goals
  rw[g1]at gj h6;first
   |(rw[show(aa d).typ b=true from by simpa using h6]at gi)
   |skip
  clear h6 g1;(go_enter func19,ntmps19);go_wp2_with fail;refine(gj.out _ (ge.out.below hB)).mono ?_;rintro e w1⟨rfl,gh⟩;have N:=au hB gh;have O:=gp.bl gh;clear a0 a1 a2 a3 b0 b1 b2 b3;obtain⟨x0,x1,x2,x3,-,-,-,-⟩:=ab O;obtain⟨b0,b1,b2,b3,-⟩:=ge.out.below N;obtain⟨a0,a1,a2,a3,-⟩:=gs.out.below N;simp only[Nd.kind_mk,Nd.text_mk,Nd.kids_mk,Nd.pos_mk]at a0 a1 a2 a3;clear hB gh gp gj;go_wp2_with fail;try
   refine(gi.out _ (ge.out.below N)).mono ?_
   rintro e w2⟨rfl,gl⟩
   replace N:=au N gl
   replace O:=O.bl gl
   clear a0 a1 a2 a3 b0 b1 b2 b3 x0 x1 x2 x3
   obtain⟨x0,x1,x2,x3,-,-,-,-⟩:=ab O
   obtain⟨b0,b1,b2,b3,-⟩:=ge.out.below N
   obtain⟨a0,a1,a2,a3,-⟩:=gs.out.below N
   simp only[Nd.kind_mk,Nd.text_mk,Nd.kids_mk,Nd.pos_mk]at a0 a1 a2 a3
   go_wp2_with fail
  clear a0 a1 a2 a3 b0 b1 b2 b3 x0 x1 x2 x3 O gi ge;go_loopg [6] al.length (fun k u6 wr=>∃i:Nat,i<=al.length/\al.length-i<=k/\u6=.int .i64 (i:Int)/\Below w w wr/\(al.take i).all (d4 (aa d) (dF names))=true)
  case atStart=>exact⟨0,gQ _,by omega,rfl,N,rfl⟩
  case round=>
   clear N;obtain⟨i,hi,hk,rfl,ga,gg⟩:=hrel;by_cases yk:i<al.length
   ·(have gu:(i:Int)<(al.length:Int):=by omega);(have h0:(0:Int)<=(i:Int):=by omega);obtain⟨bp,op,A2,c2,gz,hp⟩:=bC (gs.out.below ga).2.2.2.2 i yk;simp only[Nd.kids_mk]at hp;subst gz;have M:Hid (d4 (aa d) (dF names) al[i]=true->(al.take (i+1)).all (d4 (aa d) (dF names))=true):=hid (by intro h;rw[gU yk,kU,gg];simp[h]);have D:Hid (d4 (aa d) (dF names) al[i]=false->il (aa d) (dF names) (.mk 12 ⟨#[]⟩ [.mk 6 ⟨#[]⟩ al ap,b] np)=false):=hid (by intro h;rw[gm.out,qg];exact⟨_,gS yk,by simp[h]⟩);have gw:=hid (g3.out i yk);rw[Iw]at M D;generalize al[i]=q at *;obtain⟨qk,qt,ql,qp⟩:=q;have HP:=hid hp;obtain⟨p0,p1,p2,p3,-⟩:=hp;simp only[Nd.kind_mk,Nd.text_mk,Nd.kids_mk,Nd.pos_mk]at M D gw p0 p1 p2 p3;clear gg;by_cases q1:qk=8
    rotate_left
    ·(have gb:(qk != 8)=true:=by simpa using q1);have J:=hid (D.out (by simp[q1]));clear q1 M D;go_wp2_with fail;go_ret;exact⟨by rw[J.out];rfl,ga⟩
    subst q1;by_cases q2:ql.length=1
    rotate_left
    ·(have gb:((ql.length:Int) != 1)=true:=by simp;omega);have J:=hid (D.out (by
      rcases ql with _|⟨x,_|⟨y,l⟩⟩
      ·simp
      ·exact absurd rfl q2
      ·simp))
     clear q2 M D;go_wp2_with fail;go_ret;exact⟨by rw[J.out];rfl,ga⟩
    obtain⟨x,rfl⟩:∃x,ql=[x]:=by
     rcases ql with _|⟨x,_|⟨y,l⟩⟩
     ·simp at q2
     ·exact⟨x,rfl⟩
     ·simp at q2
    clear q2;obtain⟨bx,ox,A3,c3,gy,hx⟩:=bC HP.out.2.2.2.2 0 (by simp);simp only[Nd.kids_mk,gN,jF,gZ]at hx;subst gy;obtain⟨y0,y1,y2,y3,gt⟩:=hx;have U:=hid (gv.out _ x wr gt (gw.out x (by simp)));simp only at M D;clear gt;cases q3:(aa d).typ x with
    |false=>have J:=hid (D.out (by simp[q3]));rw[q3]at U;clear q3 M D;go_wp2_with fail;refine(U.out).mono ?_;rintro e w3⟨rfl,I⟩;go_wp2_with fail;go_ret;exact⟨by rw[J.out];rfl,au ga I⟩
    | true=>
     rw[q3]at U M D;clear q3;cases names with
     | true=>
      cases q4:aB qt with
      |true=>
       have J:=hid (M.out (by simp[dF,q4]));clear M D;go_wp2_with fail;refine(U.out).mono ?_;rintro e w3⟨rfl,I⟩;have gd:=au ga I;clear p0 p1 p2 p3 y0 y1 y2 y3 U;obtain⟨p0,p1,p2,p3,-⟩:=HP.out.below I;simp only[Nd.kind_mk,Nd.text_mk,Nd.pos_mk]at p0 p1 p3;go_wp2_with fail;refine(aQ _ _).mono ?_;rw[q4];rintro e w4⟨rfl,gn⟩;go_wp2_with fail;go_roundg (al.length-(i+1))
       case measure=>omega
       case rel=>exact⟨i+1,by omega,gC _,by go_num,au gd gn,J.out⟩
      |false=>have J:=hid (D.out (by simp[dF,q4]));clear M D;go_wp2_with fail;refine(U.out).mono ?_;rintro e w3⟨rfl,I⟩;have gd:=au ga I;clear p0 p1 p2 p3 y0 y1 y2 y3 U;obtain⟨p0,p1,p2,p3,-⟩:=HP.out.below I;simp only[Nd.kind_mk,Nd.text_mk,Nd.pos_mk]at p0 p1 p3;go_wp2_with fail;refine(aQ _ _).mono ?_;rw[q4];rintro e w4⟨rfl,gn⟩;go_wp2_with fail;go_ret;exact⟨by rw[J.out];rfl,au gd gn⟩
     | false=>
      by_cases q4:qt=⟨#[]⟩
      ·subst q4;have J:=hid (M.out (by simp[dF,ec]));clear M D;go_wp2_with fail;refine(U.out).mono ?_;rintro e w3⟨rfl,I⟩;have gd:=au ga I;clear p0 p1 p2 p3 y0 y1 y2 y3 U;obtain⟨p0,p1,p2,p3,-⟩:=HP.out.below I;simp only[Nd.kind_mk,Nd.text_mk,Nd.pos_mk]at p0 p1 p3;go_wp2_with fail;go_roundg (al.length-(i+1))
       case measure=>omega
       case rel=>exact⟨i+1,by omega,gC _,by go_num,gd,J.out⟩
      ·(have gb:qt.toList.isEmpty=false:=by rw[ao];simpa using q4);have J:=hid (D.out (by simp[dF,ec,q4]));clear M D q4;go_wp2_with fail;refine(U.out).mono ?_;rintro e w3⟨rfl,I⟩;have gd:=au ga I;clear p0 p1 p2 p3 y0 y1 y2 y3 U;obtain⟨p0,p1,p2,p3,-⟩:=HP.out.below I;simp only[Nd.kind_mk,Nd.text_mk,Nd.pos_mk]at p0 p1 p3;go_wp2_with fail;go_ret;exact⟨by rw[J.out];rfl,gd⟩
   ·(have gu:¬ (i:Int)<(al.length:Int):=by omega);have J:Hid (il (aa d) (dF names) (.mk 12 ⟨#[]⟩ [.mk 6 ⟨#[]⟩ al ap,b] np)=true):=hid (by rw[gm.out,<-gg,gV (by omega)]);clear gg;go_wp2_with fail;go_ret;exact⟨by rw[J.out];rfl,ga⟩
def lG:Nat->Nd->Nat
 |0,_=>0
 |g+1,n=>(n.kids.map (lG g)).foldl max 0+1
theorem sF{b:Nat}:∀(l:List Nat)(a:Nat),a<=b->(∀x∈l,x<=b)->l.foldl max a<=b
 |[],a,h,_=>h
 |x::l,a,h,D=>sF l (max a x) (Nat.max_le.2 ⟨h,D x (by simp)⟩) fun y hy=>D y (by simp[hy])
theorem F6:∀(g:Nat)(n:Nd),lG g n<=g
 |0,_=>gC _
 |g+1,n=>by have:=sF (b:=g) (n.kids.map (lG g)) 0 (gQ _) (fun x hx=>by obtain⟨k,_,rfl⟩:=List.mem_map.1 hx;exact F6 g k);unfold lG;omega
theorem wL(l:List Nat):∀a m,l.foldl max a<=m↔a<=m/\∀x∈l,x<=m:=by
 induction l with
 |nil=>intro a m;simp
 |cons x l ih=>
  intro a m;rw[vd,ih,Nat.max_le];simp only[vr,forall_eq_or_imp];constructor
  ·rintro⟨⟨J,I⟩,D⟩;exact⟨J,I,D⟩
  ·rintro⟨J,I,D⟩;exact⟨⟨J,I⟩,D⟩
theorem wM:∀(g:Nat)(n:Nd)(m:Nat),lG g n<=m↔∀x∈aO g n,g+1-x<=m
 |0,n,m=>by simp[lG,aO]
 |g+1,n,0=>by
  rw[aO,lG];constructor
  ·intro h;omega
  ·intro h;have:=h (g+1) vb;omega
 | g+1,n,m+1=>by
  rw[aO,lG,Nat.add_le_add_iff_right,wL];constructor
  ·rintro⟨-,h⟩x D;rcases List.mem_cons.1 D with rfl|D
   ·omega
   ·obtain⟨k,I,D⟩:=List.mem_flatMap.1 D;have:=(wM g k m).1 (h _ (List.mem_map.2 ⟨k,I,rfl⟩)) x D;omega
  ·intro h;refine⟨gQ _,fun y hy=>?_⟩;obtain⟨k,I,rfl⟩:=List.mem_map.1 hy;refine(wM g k m).2 fun x D=>?_;have:=h x (qn _ (List.mem_flatMap.2 ⟨k,I,D⟩));omega
theorem tX(n:Nd):lG 101 n<=100↔et n<=100:=by
 rw[wM,et,m9];constructor
 ·intro h;exact⟨gQ _,fun x hx=>by have:=h x hx;omega⟩
 ·rintro⟨-,h⟩x hx;have:=h x hx;omega
theorem wN:∀(d:Nat)(v:Value)(n:Nd)(w:World),d<=1000->aF w v n->rn d n ->
  Calls prog 13 #[v,(d:Int)] w fun e w'=>e=.returned (.int .i64 ((lG d n:Nat):Int))/\Below w w w':=by
 intro d;induction d with
 |zero=>intro v n w _ hv _;obtain⟨A,cp,rfl,N⟩:=hv.toC;clear hv N;have hB:=(aj w #[n.kind,n.text,.slice A n.kids.length cp,n.pos]).1;(go_enter func13,ntmps13);go_wp2_with fail;go_ret;exact⟨rfl,hB⟩
 | succ d ih=>
  intro v n w hd hv hw;have HV:=hid hv;have HW:=hid hw;have HI:=hid ih;have gb:=hw.1.1;obtain⟨A,cp,rfl,N⟩:=hv.toC;clear hv N hw ih;have hB:=(aj w #[n.kind,n.text,.slice A n.kids.length cp,n.pos]).1;have J:=(aj w #[n.kind,n.text,.slice A n.kids.length cp,n.pos]).2;(have hz:((d:Int)+1==0)=false:=by simp;omega);have hT:Hid (lG (d+1) n=(n.kids.map (lG d)).foldl max 0+1):=hid rfl;(go_enter func13,ntmps13);go_wp2_with fail;go_loopg [5,6] n.kids.length (fun g1 u5 u6 wr=>∃(i m:Nat),i<=n.kids.length/\n.kids.length-i<=g1/\u6=.int .i64 (i:Int)/\u5=.int .i64 (m:Int)/\m=((n.kids.take i).map (lG d)).foldl max 0/\m<=d/\Below w w wr/\aq wr w.heap.size 24 #[n.kind,n.text,.slice A n.kids.length cp,n.pos])
  case atStart=>exact⟨0,0,gQ _,by omega,rfl,rfl,rfl,gQ _,hB,J⟩
  case round=>
   clear J hB;obtain⟨i,m,hi,hg,rfl,rfl,h,ga,hB,J⟩:=hrel;have HM:=hid h;clear h;obtain⟨x0,x1,x2,x3,-,-,-,-⟩:=ab J;by_cases D:i<n.kids.length
   ·(have M:(i:Int)<(n.kids.length:Int):=by omega);(have h0:(0:Int)<=(i:Int):=by omega);obtain⟨bp,op,A1,ge,rfl,U⟩:=bC (af.below HV.out hB) i D;have HK:Hid (max m (lG d n.kids[i])=((n.kids.take (i+1)).map (lG d)).foldl max 0):=hid (by rw[gU D,kS,List.foldl_append,<-HM.out];rfl);have gd:=F6 d n.kids[i];have HC:=hid (HI.out _ n.kids[i] wr (by omega) U.2.2.2.2 (HW.out.2 _ (gS D)));generalize n.kids[i]=x at *;generalize lG d x=q at *;obtain⟨k0,k1,k2,k3,-⟩:=U;go_wp2_with fail;refine HC.out.mono ?_;rintro e w2⟨rfl,I⟩;have O:=au hB I;have b2:=J.bl I;clear I J HC k0 k1 k2 k3 x0 x1 x2 x3;go_wp2_with fail;go_roundg (n.kids.length-(i+1))
    case measure=>omega
    case rel=>exact⟨i+1,max m q,by omega,gC _,by go_num,by go_num,HK.out,by omega,O,b2⟩
   ·(have M:¬ (i:Int)<(n.kids.length:Int):=by omega);have HE:Hid (m+1=lG (d+1) n):=hid (by rw[hT.out,HM.out,gV (by omega)]);go_wp2_with fail;go_ret;exact⟨by rw[<-HE.out];go_num,hB⟩
def l5(f:Nd->Bool):List Nd->Bool
 |[x]=>f x
 |_=>false
theorem dX(f:Nd->Bool)(x:Nd):l5 f [x]=f x:=rfl
theorem iI(f:Nd->Bool){l:List Nd}(h:l.length≠1):l5 f l=false:=by
 rcases l with _|⟨x,_|⟨y,l⟩⟩
 ·rfl
 ·exact absurd rfl h
 ·rfl
theorem nu{l:List Nd}(h:l.length=1):∃x,l=[x]:=by
 rcases l with _|⟨x,_|⟨y,l⟩⟩
 ·simp at h
 ·exact⟨x,rfl⟩
 ·simp at h
theorem tr(k:Int)(f:Nd->Bool)(n:Nd):cE k [f] n=(decide (n.kind=k)&&(decide (n.text=(⟨#[]⟩:BA))&&l5 f n.kids)):=by
 unfold cE;congr 2;rcases n.kids with _|⟨x,_|⟨y,l⟩⟩
 ·rfl
 ·simp[a6,l5]
 ·simp[a6,l5]
theorem Re(F:cm)(t:ByteArray)(l:List Nd)(p:Int):dH F (.mk 10 t l p)=(aB t&&l.all F.typ):=by simp[dH]
theorem Rf(F:cm)(t:ByteArray)(l:List Nd)(p:Int):dH F (.mk 11 t l p)=(decide (t=(⟨#[]⟩:BA))&&l5 F.typ l):=by(have h:dH F (.mk 11 t l p)=cE 11 [F.typ] (.mk 11 t l p):=by simp[dH]);rw[h,tr];simp;rfl
theorem Rg(F:cm)(t:ByteArray)(l:List Nd)(p:Int):dH F (.mk 12 t l p)=il F ec (.mk 12 t l p):=by simp[dH]
theorem AB(F:cm)(k:Int)(t:ByteArray)(l:List Nd)(p:Int)(J:k≠10)(I:k≠11)(D:k≠12):dH F (.mk k t l p)=false:=by simp[dH,J,I,D]
theorem NU:∀d,tg d 16 (aa d).typ:=by
 intro d;induction d with
 |zero=>exact fun _ _ _ _ h=>h.elim
 | succ d ih=>
  intro v n w hv hd;rw[show(aa (d+1)).typ n=dH (aa d) n from rfl];have HI:=hid ih;have HV:=hid hv;have HD:=hid hd;have gr:=hd.1.1;obtain⟨A,cp,rfl,hC⟩:=hv.toC;have hB:=(aj w #[n.kind,n.text,.slice A n.kids.length cp,n.pos]).1;have O:=(aj w #[n.kind,n.text,.slice A n.kids.length cp,n.pos]).2;have gg:=hid (fun w'(hb:Below w w w')=>wJ d ih false _ n w' (af.below hv hb) hd);clear hv hC hd ih;generalize aa d=F at *;obtain⟨nk,nt,nl,np⟩:=n;simp only[Nd.kind_mk,Nd.text_mk,Nd.kids_mk,Nd.pos_mk]at *;by_cases h1:nk=10
  ·subst h1;have D:=hid (show dH F (.mk 10 nt nl np)=(aB nt&&nl.all F.typ)from Re _ _ _ _);clear gg;cases M:aB nt with
   |false=>have J:Hid (dH F (.mk 10 nt nl np)=false):=hid (by rw[D.out,M,jA]);(go_enter func16,ntmps16);go_wp2_with fail;refine(aQ _ _).mono ?_;rw[M];rintro e w1⟨rfl,ga⟩;go_wp2_with fail;go_ret;exact⟨by rw[J.out];rfl,au hB ga⟩
   | true=>
    have gi:Hid (dH F (.mk 10 nt nl np)=nl.all F.typ):=hid (by rw[D.out,M,jP]);clear D;(go_enter func16,ntmps16);go_wp2_with fail;refine(aQ _ _).mono ?_;rw[M];rintro e w1⟨rfl,ga⟩;have gl:=au hB ga;have gh:=O.bl ga;clear hB O ga M;go_wp2_with fail;go_loopg [3] nl.length (fun k u3 wr=>∃i:Nat,i<=nl.length/\nl.length-i<=k/\u3=.int .i64 (i:Int)/\Below w w wr/\aq wr w.heap.size 24 #[.int .i64 10,.string nt,.slice A nl.length cp,.int .i64 np]/\(nl.take i).all F.typ=true)
    case atStart=>exact⟨0,gQ _,by omega,rfl,gl,gh,rfl⟩
    case round=>
     clear gl gh;obtain⟨i,hi,hk,rfl,ge,O,N⟩:=hrel;obtain⟨x0,x1,x2,x3,-,-,-,-⟩:=ab O;by_cases gd:i<nl.length
     ·(have yk:(i:Int)<(nl.length:Int):=by omega);(have h0:(0:Int)<=(i:Int):=by omega);obtain⟨bp,op,A2,c2,gp,hp⟩:=bC (af.below HV.out ge) i gd;simp only[Nd.kids_mk]at hp;subst gp;have gj:Hid (F.typ nl[i]=true->(nl.take (i+1)).all F.typ=true):=hid (by intro h;rw[gU gd,kU,N];simp[h]);have gb:Hid (F.typ nl[i]=false->dH F (.mk 10 nt nl np)=false):=hid (by intro h;rw[gi.out,qg];exact⟨_,gS gd,by simp[h]⟩);have gq:=hid (HD.out.kid (k:=nl[i]) (gS gd));generalize nl[i]=q at *;have U:=hid (HI.out _ q wr hp.2.2.2.2 gq.out);obtain⟨p0,p1,p2,p3,-⟩:=hp;clear N;cases q3:F.typ q with
      |false=>have J:=hid (gb.out q3);rw[q3]at U;clear q3 gj gb;go_wp2_with fail;refine(U.out).mono ?_;rintro e w3⟨rfl,I⟩;go_wp2_with fail;go_ret;exact⟨by rw[J.out];rfl,au ge I⟩
      |true=>
       have J:=hid (gj.out q3);rw[q3]at U;clear q3 gj gb;go_wp2_with fail;refine(U.out).mono ?_;rintro e w3⟨rfl,I⟩;go_wp2_with fail;go_roundg (nl.length-(i+1))
       case measure=>omega
       case rel=>exact⟨i+1,by omega,gC _,by go_num,au ge I,O.bl I,J.out⟩
     ·(have yk:¬ (i:Int)<(nl.length:Int):=by omega);have J:Hid (dH F (.mk 10 nt nl np)=true):=hid (by rw[gi.out,<-N,gV (by omega)]);clear N;go_wp2_with fail;go_ret;exact⟨by rw[J.out];rfl,ge⟩
  by_cases M:nk=11
  ·subst M;have D:=hid (show dH F (.mk 11 nt nl np)=(decide (nt=(⟨#[]⟩:BA))&&l5 F.typ nl)from Rf _ _ _ _);clear gg h1;by_cases M:nt=⟨#[]⟩
   rotate_left
   ·(have gn:nt.toList.isEmpty=false:=by rw[ao];simpa using M);have J:Hid (dH F (.mk 11 nt nl np)=false):=hid (by rw[D.out];simp[M]);clear D M;(go_enter func16,ntmps16);go_wp2_with fail;go_ret;exact⟨by rw[J.out];rfl,hB⟩
   subst M;by_cases h3:nl.length=1
   rotate_left
   ·(have gn:((nl.length:Int)==1)=false:=by simp;omega);have J:Hid (dH F (.mk 11 ⟨#[]⟩ nl np)=false):=hid (by rw[D.out,iI _ h3,jL]);clear D h3;generalize nl.length=m at *;(go_enter func16,ntmps16);go_wp2_with fail;go_ret;exact⟨by rw[J.out];rfl,hB⟩
   obtain⟨x,rfl⟩:=nu h3;clear h3;have J:Hid (dH F (.mk 11 ⟨#[]⟩ [x] np)=F.typ x):=hid (by rw[D.out,dX];simp);have gm:aF w (.agg #[.int .i64 11,.string ⟨#[]⟩,.slice A 1 cp,.int .i64 np]) (.mk 11 ⟨#[]⟩ [x] np):=HV.out;have hB:Below w w (w.alloc (.cells #[.int .i64 11,.string ⟨#[]⟩,.slice A 1 cp,.int .i64 np] 24)):=hB;obtain⟨bp,op,A2,c2,rfl,hp⟩:=bC (af.below gm hB) 0 (by simp);simp only[Nd.kids_mk,gN,jF,gZ]at hp;have U:=hid (HI.out _ x _ hp.2.2.2.2 (HD.out.kid (k:=x) (by simp)));obtain⟨p0,p1,p2,p3,-⟩:=hp;clear D gm HV;(go_enter func16,ntmps16);go_wp2_with fail;refine(U.out).mono ?_;rintro e w3⟨rfl,I⟩;go_wp2_with fail;go_ret;exact⟨by rw[J.out];rfl,au hB I⟩
  by_cases h3:nk=12
  ·subst h3;have J:=hid (show dH F (.mk 12 nt nl np)=il F (dF false) (.mk 12 nt nl np)from Rg _ _ _ _);obtain⟨x0,x1,x2,x3,-,-,-,-⟩:=ab O;clear h1 M;(go_enter func16,ntmps16);go_wp2_with fail;refine(gg.out _ hB).mono ?_;rintro e w3⟨rfl,I⟩;go_wp2_with fail;go_ret;exact⟨by rw[J.out];rfl,au hB I⟩
  have J:Hid (dH F (.mk nk nt nl np)=false):=hid (AB _ _ _ _ _ h1 M h3);(have e1:(nk==10)=false:=by simpa using h1);(have e2:(nk==11)=false:=by simpa using M);(have e3:(nk==12)=false:=by simpa using h3);clear h1 M h3 gg;(go_enter func16,ntmps16);go_wp2_with fail;go_ret;exact⟨by rw[J.out];rfl,hB⟩
theorem ms(k:Int)(f:Nd->Bool)(so:ByteArray->Bool)(p:Nd):cE k [f] (aw so p)=(decide (p.kind=k)&&(l5 f p.kids&&so p.text)):=by
 obtain⟨j,t,l,a⟩:=p;rw[show aw so (.mk j t l a)=if so t=true then .mk j ⟨#[]⟩ l a else .mk 37 ⟨#[]⟩ [] 0 from rfl];by_cases hs:so t=true
 ·rw[gG hs,tr];simp[hs];rfl
 ·rw[gB hs,tr];rw[qz]at hs;simp[hs,l5]
theorem NV(F:cm)(p:Nd):lh F p=(decide (p.kind=15)&&(l5 F.typ p.kids&&im p.text)):=ms 15 _ _ _
theorem IK(F:cm)(p:Nd):io F p=(decide (p.kind=9)&&(l5 F.typ p.kids&&aB p.text)):=ms 9 _ _ _
theorem E4(F:cm)(p:Nd):fE F p=(decide (p.kind=7)&&(l5 (ck (eS F) (bo F)) p.kids&&aB p.text)):=ms 7 _ _ _
theorem fV(d:Nat)(hT:tg d 16 (aa d).typ):∀(v:Value)(n:Nd)(w:World),aF w v n->df (d+1) n->Calls prog 39 #[v] w fun e w'=>e=.returned (.bool (bo (aa d) n))/\Below w w w':=by
 intro v n w hv hd;have HV:=hid hv;have HD:=hid hd;have gr:=hd.1.1;obtain⟨A,cp,rfl,hC⟩:=hv.toC;have hB:=(aj w #[n.kind,n.text,.slice A n.kids.length cp,n.pos]).1;have U:=(aj w #[n.kind,n.text,.slice A n.kids.length cp,n.pos]).2;have H0:=hid hT;clear hv hC hd hT;generalize aa d=F at *;obtain⟨nk,nt,nl,np⟩:=n;simp only[Nd.kind_mk,Nd.text_mk,Nd.kids_mk,Nd.pos_mk]at *;by_cases h1:nk=14
 rotate_left
 ·(have O:(nk != 14)=true:=by simpa using h1);have M:Hid (bo F (.mk nk nt nl np)=false):=hid (by simp[bo,h1]);clear h1;(go_enter func39,ntmps39);go_wp2_with fail;go_ret;exact⟨by rw[M.out];rfl,hB⟩
 subst h1;by_cases h2:nt=⟨#[]⟩
 rotate_left
 ·(have O:nt.toList.isEmpty=false:=by rw[ao];simpa using h2);have M:Hid (bo F (.mk 14 nt nl np)=false):=hid (by simp[bo,h2]);clear h2;(go_enter func39,ntmps39);go_wp2_with fail;go_ret;exact⟨by rw[M.out];rfl,hB⟩
 subst h2;by_cases h3:nl.length=0
 ·(have O:((nl.length:Int)==0)=true:=by rw[kO];omega);have M:Hid (bo F (.mk 14 ⟨#[]⟩ nl np)=false):=hid (by simp[bo,h3]);clear h3;generalize nl.length=m at *;(go_enter func39,ntmps39);go_wp2_with fail;go_ret;exact⟨by rw[M.out];rfl,hB⟩
 (have O:((nl.length:Int)==0)=false:=by rw[gF];omega);have gi:=hid (show bo F (.mk 14 ⟨#[]⟩ nl np)=nl.all (lh F)by simp[bo,Nat.pos_of_ne_zero h3]);clear h3;(go_enter func39,ntmps39);go_wp2_with fail;go_loopg [3,4] nl.length (fun k u3 _ wr=>∃i:Nat,i<=nl.length/\nl.length-i<=k/\u3=.int .i64 (i:Int)/\Below w w wr/\aq wr w.heap.size 24 #[.int .i64 14,.string ⟨#[]⟩,.slice A nl.length cp,.int .i64 np]/\(nl.take i).all (lh F)=true)
 case atStart=>exact⟨0,gQ _,by omega,rfl,hB,U,rfl⟩
 case round=>
  clear hB U O;obtain⟨i,hi,hk,rfl,ge,U,N⟩:=hrel;obtain⟨x0,x1,x2,x3,-,-,-,-⟩:=ab U;by_cases gb:i<nl.length
  ·(have gl:(i:Int)<(nl.length:Int):=by omega);(have h0:(0:Int)<=(i:Int):=by omega);obtain⟨bp,op,A2,c2,gp,hp⟩:=bC (af.below HV.out ge) i gb;simp only[Nd.kids_mk]at hp;subst gp;have J:Hid (lh F nl[i]=true->(nl.take (i+1)).all (lh F)=true):=hid (by intro h;rw[gU gb,kU,N];simp[h]);have D:Hid (lh F nl[i]=false->bo F (.mk 14 ⟨#[]⟩ nl np)=false):=hid (by intro h;rw[gi.out,qg];exact⟨_,gS gb,by simp[h]⟩);have gq:=hid (HD.out.kid (k:=nl[i]) (gS gb));rw[NV]at J D;generalize nl[i]=q at *;obtain⟨qk,qt,ql,qp⟩:=q;obtain⟨p0,p1,p2,p3,gj⟩:=hp;simp only[Nd.kind_mk,Nd.text_mk,Nd.kids_mk,Nd.pos_mk]at J D p0 p1 p2 p3 gj;have gm:=hid gj;have I:=ge.alloc ge.size (.cells #[.int .i64 qk,.string qt,.slice A2 ql.length c2,.int .i64 qp] 24);have gs:=aq.new wr 24 #[.int .i64 qk,.string qt,.slice A2 ql.length c2,.int .i64 qp];have gn:=(aj wr #[.int .i64 qk,.string qt,.slice A2 ql.length c2,.int .i64 qp]).1;clear N gj;by_cases q1:qk=15
   rotate_left
   ·(have O:(qk != 15)=true:=by simpa using q1);have M:=hid (D.out (by simp[q1]));clear q1 J D;go_wp2_with fail;go_ret;exact⟨by rw[M.out];rfl,I⟩
   subst q1;by_cases q2:im qt=true
   rotate_left
   ·have q3:=Bool.eq_false_iff.2 q2;(have e1:qt.toList.isEmpty=false:=by unfold im at q3;rw[ao];exact(Bool.or_eq_false_iff.1 q3).1);(have e2:(qt.toList==[126])=false:=by unfold im at q3;rw[<-cy qt [126]];exact(Bool.or_eq_false_iff.1 q3).2);have M:=hid (D.out (by simp[q3]));clear q2 q3 J D;go_wp2_with fail;go_ret;exact⟨by rw[M.out];rfl,I⟩
   by_cases q3:ql.length=1
   rotate_left
   ·(have O:((ql.length:Int) != 1)=true:=by simp;omega);have M:=hid (D.out (by rw[iI _ q3];simp));(have ga:qt=⟨#[]⟩\/qt=⟨#[126]⟩:=by unfold im at q2;simpa using q2);clear q2 q3 J D;rcases ga with rfl|rfl;all_goals(go_wp2_with fail);go_ret;exact⟨by rw[M.out];rfl,I⟩
   obtain⟨x,rfl⟩:=nu q3;rw[dX]at J D;have gh:aF wr (.agg #[.int .i64 15,.string qt,.slice A2 1 c2,.int .i64 qp]) (.mk 15 qt [x] qp):=gm.out;have I:Below w w (wr.alloc (.cells #[.int .i64 15,.string qt,.slice A2 1 c2,.int .i64 qp] 24)):=I;obtain⟨bx,ox,A3,c3,rfl,hx⟩:=bC gh 0 (by simp);simp only[Nd.kids_mk,gN,jF,gZ]at hx;obtain⟨y0,y1,y2,y3,yk⟩:=hx.below ((gH wr.heap.size wr).alloc (gC _) (.cells #[.int .i64 15,.string qt,.slice (some ⟨bx,ox,none⟩) 1 c2,.int .i64 qp] 24));have gg:=hid (H0.out _ x _ yk (gq.out.kid' (k:=x) (by simp)));(have ga:qt=⟨#[]⟩\/qt=⟨#[126]⟩:=by unfold im at q2;simpa using q2);clear hx yk q3 gm gh;cases q4:F.typ x with
   |false=>have M:=hid (D.out (by simp[q4]));rw[q4]at gg;clear q4 q2 J D;rcases ga with rfl|rfl;all_goals(go_wp2_with fail);refine(gg.out).mono ?_;rintro e w3⟨rfl,gd⟩;go_wp2_with fail;go_ret;exact⟨by rw[M.out];rfl,au I gd⟩
   | true=>
    have M:=hid (J.out (by simp[q4,q2]));rw[q4]at gg;clear q4 q2 J D;rcases ga with rfl|rfl;all_goals
     go_wp2_with fail;refine(gg.out).mono ?_;rintro e w3⟨rfl,gd⟩;go_wp2_with fail;go_roundg (nl.length-(i+1))
     case measure=>omega
     case rel=>exact⟨i+1,by omega,gC _,by go_num,au I gd,(U.bl gn).below gd (by simp;exact Nat.lt_succ_of_lt U.lt),M.out⟩
  ·(have gl:¬ (i:Int)<(nl.length:Int):=by omega);have M:Hid (bo F (.mk 14 ⟨#[]⟩ nl np)=true):=hid (by rw[gi.out,<-N,gV (by omega)]);clear N;go_wp2_with fail;go_ret;exact⟨by rw[M.out];rfl,ge⟩
end
end Go.Proofs.YteialcjaiocjdaaGreatDoor
