/-
  Parts of the proof: Ras Rop Rlitx. By an AI agent.
-/
import Derived.Test.YtiebcdeafofgdaaGreatDoorJ13
set_option maxRecDepth 100000
set_option maxHeartbeats 8000000
namespace Go.Proofs.YtiebcdeafofgdaaGreatDoor
section
open Go.RowKit Go.Lib Go.Proofs
attribute [local go_sem ↓] Go.wp_at_zero Go.wp_at_succ
attribute [local go_sem] bu bv bw bz
mutual
def Ix:Nd->Prop
 | .mk k _ l _=>(k=22->∃x r,l=x::r/\r≠[]/\x.kind≠10)/\l.length<=1000000/\uZ l
def uZ:List Nd->Prop
 |[]=>True
 |x::r=>Ix x/\uZ r
end
theorem uZ.mem{l:List Nd}(h:uZ l):∀i(D:i<l.length),Ix l[i]:=by
 induction l with
 |nil=>intro i D;simp at D
 |cons x r ih=>
  unfold uZ at h;intro i D;cases i with
  |zero=>exact h.1
  |succ i=>exact ih h.2 i (by simpa using D)
theorem Ix.kids{n:Nd}(h:Ix n):(n.kind=22->∃x r,n.kids=x::r/\r≠[]/\x.kind≠10)/\n.kids.length<=1000000/\uZ n.kids:=by cases n;unfold Ix at h;exact h
theorem Dw{n:Nd}(D:n.kind=10\/n.kind=11\/n.kind=12):bJ n=some n:=by cases n;unfold bJ;exact gE D
theorem Dx{n:Nd}(D:¬ (n.kind=10\/n.kind=11\/n.kind=12))(h:n.kind=18):bJ n=some (.mk 10 n.text [] n.pos):=by cases n;unfold bJ;exact(gA D).trans (gE h)
theorem Dy{n:Nd}(D:¬ (n.kind=10\/n.kind=11\/n.kind=12))(h:n.kind≠18)(I:n.kind≠22):bJ n=none:=by cases n;unfold bJ;exact(gA D).trans ((gA h).trans (gA I))
theorem Ie{t:ByteArray}{x:Nd}{r:List Nd}{a:Int}:bJ (.mk 22 t (x::r) a)=match bJ x with
  |some m=>if m.kind=10/\m.kids.length=0 then(cJ r).map fun r'=>.mk m.kind m.text r' m.pos else none
  |none=>none:=by
 rw[bJ];rw[gA (by decide),gA (by decide),gE rfl];cases bJ x with
 |none=>rfl
 |some m=>cases m;rfl
theorem r8{fn:Func}{q r:Tmp}(J:fn.results = #[.cell q 24,.tmp r])(tmps:Array Value){w:World}{g:Nat}{a b c d v:Value}(N:tmps.getD q undef=.pointer (some ⟨g,0,none⟩))(M:tmps.getD r undef=v)(hb:au w g 24 #[a,b,c,d]):
  (results fn tmps).run Tryz.prog w=.ok (.tuple #[.agg #[a,b,c,d],v]) w:=by obtain⟨d0,h,U,O,_,_,_,_⟩:=ag hb;unfold results;rw[J];(have I:tmps[q]?.getD undef=.pointer (some ⟨g,0,none⟩):=by simpa using N);(have D:tmps[r]?.getD undef=v:=by simpa using M);simp[I,D,go_sem,d0,h,U,O]
def yb(X:Nat->Prop)(w:World)(r:Option Nd)(k10:Prop)(e:Ending)(w':World):Prop:=
 Below w w w'/\match r with
 |some m=>∃A c,e=.returned (.tuple #[.agg (nv m A c),.bool true]) /\
  aq (fun b=>X b\/w.heap.size<=b) w' (.agg (nv m A c)) m/\(k10->m.kind=10->m.kids=[]->A=none/\c=0)
 |none=>e=.returned (.tuple #[.agg bD,.bool false])
theorem yc{B:Nat}{w wk:World}{g:Nat}(h:Below B w wk)(D:B<=g)(a b c d:Value):Below B w (ck wk g a b c d):=
 (((h.setCell (p:=⟨g,0,none⟩) D a).setCell (p:=⟨g,1,none⟩) D b).setCell (p:=⟨g,2,none⟩) D c).setCell (p:=⟨g,3,none⟩) D d
theorem pQ{X:Nat->Prop}{w wk:World}{m:Nd}{r:Option Nd}{k10:Prop}{A:Option Addr}{c:Nat}{z0 N M J:Value}{g q rr:Nat}{fn:Func}{a:Act}(h:r=some m)
  (O:aq (fun b=>(X b\/w.heap.size<=b)/\b≠g) wk (.agg (nv m A c)) m)(hb:Below w w wk)(hB:au wk g 24 #[z0,N,M,J])(hg:w.heap.size<=g)
  (hk:k10->m.kind=10->m.kids=[]->A=none/\c=0)(I:fn.results = #[.cell q 24,.tmp rr])(U:a.tmps.getD q undef=.pointer (some ⟨g,0,none⟩))(D:a.tmps.getD rr undef=.bool true)(hd:a.defers=[]):
  bodyPost Tryz.prog fn (yb X w r k10) .ret a (ck wk g (.int .i64 m.kind) (.string m.text) (.slice A m.kids.length c) (.int .i64 m.pos)):=by refine jL (r8 I _ U D (cg hB _ _ _ _)) hd ?_;unfold yb;rw[h];exact⟨yc hb hg _ _ _ _,A,c,rfl,(O.kept (dq (fun b hb=>hb.2) _ _ _ _)).mono fun b hb _=>hb.1,hk⟩
theorem pR{X:Nat->Prop}{w wk:World}{r:Option Nd}{k10:Prop}{z0 z1 z2 z3:Value}{g q rr:Nat}{fn:Func}{a:Act}(M:r=none)
  (hb:Below w w wk)(hB:au wk g 24 #[z0,z1,z2,z3])(N:w.heap.size<=g)
  (I:fn.results = #[.cell q 24,.tmp rr])(J:a.tmps.getD q undef=.pointer (some ⟨g,0,none⟩))(D:a.tmps.getD rr undef=.bool false)(hd:a.defers=[]):
  bodyPost Tryz.prog fn (yb X w r k10) .ret a (ck wk g (.int .i64 0) (.string ⟨#[]⟩) (.slice none 0 0) (.int .i64 0)):=by refine jL (r8 I _ J D (cg hB _ _ _ _)) hd ?_;unfold yb;rw[M];exact⟨yc hb N _ _ _ _,rfl⟩
theorem E2(N:Nat):∀(n:Nd),SizeOf.sizeOf n<=N->Ix n->∀(X:Nat->Prop)(w:World)(v:Value),aq X w v n ->
  Calls Tryz.prog 189 #[v] w (yb X w (bJ n) (n.kind≠10)):=by
 induction N with
 |zero=>intro n h;exact absurd h (by cases n;simp)
 | succ N ih=>
  intro n hN hI X w v hv;obtain⟨A,cp,rfl,hC⟩:=hv.toC;generalize hres:bJ n=res at *;have gv:=(au.new w 24 (nv n A cp)).alloc (.cells bD 24);have ga:au ((w.alloc (.cells (nv n A cp) 24)).alloc (.cells bD 24)) (w.heap.size+1) 24 bD:=au.new_at (by simp) _ _;have O:Below w w ((w.alloc (.cells (nv n A cp) 24)).alloc (.cells bD 24)):=bel;(have km:((w.alloc (.cells (nv n A cp) 24)).alloc (.cells bD 24)).heap.size=w.heap.size+2:=by simp);have gu:=(hv.mono (Y:=fun b=>X b/\b<w.heap.size) fun b hb J=>⟨hb,J⟩).below (O.mono (d5 _));clear hC hv;(go_enter Tryz.func189,Tryz.ntmps189);(go_upto_region 1 with fail);change Code.wp _ _ _ _ ((w.alloc (.cells (nv n A cp) 24)).alloc (.cells bD 24));generalize(w.alloc (.cells (nv n A cp) 24)).alloc (.cells bD 24)=w0 at *;obtain⟨x0,x1,x2,x3,-,-,-,-⟩:=ag gv;obtain⟨d0,d1,d2,d3,e0,e1,e2,e3⟩:=ag ga;by_cases hk:n.kind=10\/n.kind=11\/n.kind=12
  case pos=>
   have HF:Hid (res=some n):=hid (by rw[<-hres];exact Dw hk);have HK:Hid (n.kind≠10->n.kind=10->n.kids=[]->A=none/\cp=0):=hid (fun h1 h2=>absurd h2 h1);have hr:=gu.mono (Y:=fun b=>(X b\/w.heap.size<=b)/\b≠w.heap.size+1) fun b hb _=>⟨.inl hb.1,by have:=hb.2;omega⟩;clear hres;by_cases gs:n.kind=10
   ·have h5:(n.kind==10)=true:=beq_iff_eq.2 gs;clear hk gs;(go_wp2_with fail);exact pQ HF.out hr O ga (jE _) HK.out rfl (by rfl) (by rfl) rfl
   ·have h5:(n.kind==10)=false:=beq_eq_false_iff_ne.2 gs;by_cases gy:n.kind=11
    ·have h4:(n.kind==11)=true:=beq_iff_eq.2 gy;clear hk gs gy;(go_wp2_with fail);exact pQ HF.out hr O ga (jE _) HK.out rfl (by rfl) (by rfl) rfl
    ·have h4:(n.kind==11)=false:=beq_eq_false_iff_ne.2 gy;have jt:(n.kind==12)=true:=beq_iff_eq.2 (by omega);clear hk gs gy;(go_wp2_with fail);exact pQ HF.out hr O ga (jE _) HK.out rfl (by rfl) (by rfl) rfl
  have h5:(n.kind==10)=false:=beq_eq_false_iff_ne.2 (by omega);have h4:(n.kind==11)=false:=beq_eq_false_iff_ne.2 (by omega);have jt:(n.kind==12)=false:=beq_eq_false_iff_ne.2 (by omega);by_cases ge:n.kind=18
  ·have HF:=hid (show res=some (.mk 10 n.text [] n.pos)by rw[<-hres];exact Dx hk ge);have js:(n.kind==18)=true:=beq_iff_eq.2 ge;clear hres hk ge;(go_wp2_with fail);refine(aN _ _ _ _ _ ⟨_,_,_,rfl⟩).mono ?_;rintro e w1⟨rfl,I⟩;have gd:=ga.below I (by omega);have gp:=O.trans (I.mono (by omega));clear x0 x1 x2 x3 d0 d1 d2 d3 e0 e1 e2 e3;obtain⟨d0,d1,d2,d3,e0,e1,e2,e3⟩:=ag gd;(go_wp2_with fail);exact pQ (m:=.mk 10 n.text [] n.pos) HF.out (aq.leaf 10 n.text n.pos) gp gd (jE _) (fun _ _ _=>⟨rfl,rfl⟩) rfl (by rfl) (by rfl) rfl
  have js:(n.kind==18)=false:=beq_eq_false_iff_ne.2 ge;by_cases gq:n.kind=22
  case neg=>have HF:Hid (res=none):=hid (by rw[<-hres];exact Dy hk ge gq);have jr:(n.kind==22)=false:=beq_eq_false_iff_ne.2 gq;clear hres hk ge gq;(go_wp2_with fail);exact pR HF.out O ga (jE _) rfl (by rfl) (by rfl) rfl
  have jr:(n.kind==22)=true:=beq_iff_eq.2 gq;obtain⟨x,r,ju,j5,h6⟩:=hI.kids.1 gq;have kp:=hI.kids.2.1;have gw:=hI.kids.2.2;obtain⟨nk,nt,nl,np⟩:=n;simp only[Nd.kind_mk,Nd.text_mk,Nd.kids_mk,Nd.pos_mk]at *;subst ju;clear hI hk ge;rw[gq]at hres;rw[Ie]at hres;have gi:=hid hres;clear hres;(have jc:SizeOf.sizeOf x<=N:=by simp at hN;omega);(have jd:∀y∈r,SizeOf.sizeOf y<=N:=fun y hy=>by have:=List.sizeOf_lt_of_mem hy;simp at hN;omega);have kw:=hid gw;have kc:Ix x:=gw.1;have kd:∀i(hi:i<r.length),Ix r[i]:=uZ.mem gw.2;have hp:dG (fun b=>X b/\b<w.heap.size) w0 (.slice A (x::r).length cp) (x::r):=aq.kidsV gu;(have kr:r.length+1<=cp:=by obtain⟨A9,c9,kk,e9,h9,-⟩:=hp;injection e9 with _ _ e9;rw[e9];exact h9);have ko:0<r.length:=List.length_pos_iff.2 j5;(have ks:¬ cp=1:=by omega);obtain⟨b,off,A1,c1,rfl,j9,-,hn,hm,hl,hh,ho⟩:=hp.kid 0 (by simp);have ha:∀i(hi:i<r.length)W,Below w.heap.size w0 W->∃A1 c1,W.cell? ⟨b,off+4+i*4,none⟩=some (.int .i64 r[i].kind)/\W.cell? ⟨b,off+4+i*4+1,none⟩=some (.string r[i].text) /\
    W.cell? ⟨b,off+4+i*4+2,none⟩=some (.slice A1 r[i].kids.length c1)/\W.cell? ⟨b,off+4+i*4+3,none⟩=some (.int .i64 r[i].pos) /\
    aq (fun b=>X b/\b<w.heap.size) W (.agg #[.int .i64 r[i].kind,.string r[i].text,.slice A1 r[i].kids.length c1,.int .i64 r[i].pos]) r[i]:=by intro i hi W hW;have hV:=gu.keep (w':=W) fun b hb _=>hW.block b hb.2;have j7:dG (fun b=>X b/\b<w.heap.size) W (.slice (some ⟨b,off,none⟩) (x::r).length cp) (x::r):=aq.kidsV hV;obtain⟨b',off',A2,c2,eA,-,-,j0,j1,j2,j3,jw⟩:=j7.kid (i+1) (by simp;omega);injection eA with eA;injection eA with eA1 eA2;subst eA1 eA2;(have ea:off+(i+1)*4=off+4+i*4:=by omega);rw[ea]at j0 j1 j2 j3;exact⟨A2,c2,j0,j1,j2,j3,jw⟩
  simp only[kE,jP,jM]at hn hm hl hh ho;have HK:=hid ha;have ki:b<w.heap.size:=j9.2;clear ha hp gu gw;have hq:(x::r).length=r.length+1:=rfl;generalize(x::r).length=q at *;(have kq:(0:Int)<(q:Int):=by omega);(go_wp2_with fail);refine(ih x jc kc _ _ _ ho).mono ?_;cases hA:bJ x with
  |none=>have HF:Hid (res=none):=hid (by rw[<-gi.out,hA]);rintro e w1⟨I,rfl⟩;unfold bD;have jf:=I.size;have gd:=ga.below I (by omega);have gp:=O.trans (I.mono (by omega));have gb:=gd.alloc (.cells bD 24);have gn:=gp.alloc (by omega) (.cells bD 24);unfold bD at gb gn;clear x0 x1 x2 x3 d0 d1 d2 d3 e0 e1 e2 e3 hn hm hl hh ga gd gv gi;obtain⟨d0,d1,d2,d3,e0,e1,e2,e3⟩:=ag gb;(go_wp2_with fail);exact pR HF.out gn gb (jE _) rfl (by rfl) (by rfl) rfl
  | some m=>
   have gz:=hid (show(if m.kind=10/\m.kids.length=0 then(cJ r).map fun r'=>.mk m.kind m.text r' m.pos else none)=res by rw[<-gi.out,hA]);rintro e w1⟨I,A3,c3,rfl,jv,gh⟩;have gd:=ga.below I (by omega);have jk:=gv.below I (by omega);have gp:=O.trans (I.mono (by omega));have hf:Below (w.heap.size+2) w0 w1:=I.mono (by omega);have jf:=I.size;have gb:=gd.alloc (.cells (nv m A3 c3) 24);have jj:=jk.alloc (.cells (nv m A3 c3) 24);have gl:=au.new w1 24 (nv m A3 c3);have gn:=gp.alloc (by omega) (.cells (nv m A3 c3) 24);have he:=hf.alloc (by omega) (.cells (nv m A3 c3) 24);(have j4:(w1.alloc (.cells (nv m A3 c3) 24)).heap.size=w1.heap.size+1:=by simp);clear x0 x1 x2 x3 d0 d1 d2 d3 e0 e1 e2 e3 hn hm hl hh ga gd gv jk gi gp hf I ho jv;(go_upto_region 10 with fail);change Code.wp _ _ _ _ (w1.alloc (.cells (nv m A3 c3) 24));generalize hLL:w1.heap.size=L at *;generalize w1.alloc (.cells (nv m A3 c3) 24)=w2 at *;clear hLL;obtain⟨x0,x1,x2,x3,-,-,-,-⟩:=ag jj;obtain⟨d0,d1,d2,d3,e0,e1,e2,e3⟩:=ag gb;obtain⟨y0,y1,y2,y3,f0,f1,f2,f3⟩:=ag gl;by_cases D:m.kind=10
   case neg=>have HF:Hid (res=none):=hid (by rw[<-gz.out,gA (fun h=>D h.1)]);have g1:(m.kind != 10)=true:=bne_iff_ne.2 D;have g2:(m.kind==10)=false:=beq_eq_false_iff_ne.2 D;clear D gh;(go_wp2_with fail);exact pR HF.out gn gb (jE _) rfl (by rfl) (by rfl) rfl
   (have g1:(m.kind != 10)=false:=by rw[D];rfl);(have g2:(m.kind==10)=true:=by rw[D];rfl);by_cases gr:m.kids.length=0
   case neg=>have HF:Hid (res=none):=hid (by rw[<-gz.out,gA (fun h=>gr h.2)]);(have g3:decide ((m.kids.length:Int)>0)=true:=by rw[gS];omega);(have g4:(0:Int)<(m.kids.length:Int):=by omega);clear D gh;(go_wp2_with fail);exact pR HF.out gn gb (jE _) rfl (by rfl) (by rfl) rfl
   obtain⟨rfl,rfl⟩:=gh h6 D (jR gr);have HF:=hid (show(cJ r).map (fun r'=>.mk m.kind m.text r' m.pos)=res by rw[<-gz.out,gE ⟨D,gr⟩]);unfold nv at gl;rw[gr]at gl y2;clear D gr gz gh;have jl:pA (w.heap.size+2) (fun b=>X b/\b<w.heap.size) L w2 (.slice none 0 0) []:=pA.nil _ _ _ _;(have je:w.heap.size+2<=L:=by omega);(have kn:r.length<=1000000:=by omega);generalize hmk:m.kind=mk at *;generalize hmt:m.text=mt at *;generalize hmp:m.pos=mp at *;(go_wp2_with fail);clear x0 x1 x2 x3 d0 d1 d2 d3 e0 e1 e2 e3 y0 y1 y3 f0 f1 f2 f3 y2 gn j4 jf jj;go_loopg [52] r.length (fun gg jq wr=>∃(j:Nat)(acc:List Nd)(A4:Option Addr)(c4:Nat),jq=.int .i64 (j:Int)/\j+gg=r.length/\acc.length<=j/\pA (w.heap.size+2) (fun b=>X b/\b<w.heap.size) L wr (.slice A4 acc.length c4) acc /\
    au wr L 24 #[.int .i64 mk,.string mt,.slice A4 acc.length c4,.int .i64 mp]/\au wr (w.heap.size+1) 24 bD/\Below (w.heap.size+2) w0 wr/\L<wr.heap.size/\(acc=[]->A4=none/\c4=0)/\cJ r=(cJ (r.drop j)).map fun z=>acc++z)
   case atStart=>exact⟨0,[],none,0,rfl,by omega,by simp,jl,gl,gb,he,gl.lt,fun _=>⟨rfl,rfl⟩,by simp⟩
   case round=>
    clear jl gl gb he;obtain⟨j,acc,A4,c4,rfl,hj,kh,hO,hL,hG,hB,ku,j6,gj⟩:=hrel;have jo:=O.trans (hB.mono (by omega));obtain⟨d0,d1,d2,d3,e0,e1,e2,e3⟩:=ag hG;obtain⟨y0,y1,y2,y3,f0,f1,f2,f3⟩:=ag hL;by_cases gt:j<r.length
    case neg=>
     (have ej:j=r.length:=by omega);(have g5:¬ (j:Int)<(r.length:Int):=by omega);have g6:decide ((j:Int)<(r.length:Int))=false:=jD g5;have HE:=hid (show res=some (.mk mk mt acc mp)by rw[<-HF.out,gj,jU (by omega)];show some (Nd.mk mk mt (acc++[]) mp)=_;rw[kG]);have hV:=(aq.of_slice hO.values mk mt mp).mono (Y:=fun b=>(X b\/w.heap.size<=b)/\b≠w.heap.size+1) fun b hb _=>by
      rcases hb with⟨h1,h2⟩|hb
      ·exact⟨.inl h1,by omega⟩
      ·exact⟨.inr (by omega),by omega⟩
     clear gj HF;(go_wp2_with fail);exact pQ (m:=.mk mk mt acc mp) HE.out hV jo hG (jE _) (fun _ _ h=>j6 h) rfl (by rfl) (by rfl) rfl
    case pos=>
     (have g5:(j:Int)<(r.length:Int):=by omega);have g6:decide ((j:Int)<(r.length:Int))=true:=kN g5;(have g7:(0:Int)<=(j:Int):=by omega);have g8:IntKind.i64.wrap ((j:Int)+1)=(j:Int)+1:=gO _ (by omega);obtain⟨A5,c5,k0,k1,k2,k3,ja⟩:=HK.out j gt wr (hB.mono (by omega));have jg:r.drop j=r[j]::r.drop (j+1):=jX gt;have jb:=jd r[j] (jC gt);have kb:=kd j gt;generalize r[j]=y at *;have ht:=hO.keep (w':=wr.alloc (.cells (nv y A5 c5) 24)) fun b _ _ J=>gW wr _ b J;have jm:=hL.alloc (.cells (nv y A5 c5) 24);have hw:=hG.alloc (.cells (nv y A5 c5) 24);have kv:=hB.size;have hz:=hB.alloc (show w.heap.size+2<=wr.heap.size by omega) (.cells (nv y A5 c5) 24);have jh:=au.new wr 24 (nv y A5 c5);have h8:=ja.keep (w':=wr.alloc (.cells (nv y A5 c5) 24)) fun b _ J=>gW wr _ b J;(have kl:(wr.alloc (.cells (nv y A5 c5) 24)).heap.size=wr.heap.size+1:=by simp);(go_upto_region 15 with fail);change Code.wp _ _ _ _ (wr.alloc (.cells (nv y A5 c5) 24));generalize hTT:wr.heap.size=T at *;generalize wr.alloc (.cells (nv y A5 c5) 24)=w6 at *;clear d0 d1 d2 d3 e0 e1 e2 e3 y0 y1 y2 y3 f0 f1 f2 f3 k0 k1 k2 k3 hO hL hG hB jo ja;obtain⟨t0,t1,t2,t3,-,-,-,-⟩:=ag jh;(go_wp2_with fail);refine(ih y jb kb _ _ _ h8).mono ?_;cases jp:bJ y with
     |none=>have HE:Hid (res=none):=hid (by rw[<-HF.out,gj,jg,cJ,jp];rfl);rintro e w7⟨M,rfl⟩;unfold bD;have jz:=M.size;have gm:=(hw.bl M).alloc (.cells bD 24);have gx:=((O.trans (hz.mono (by omega))).trans (M.mono (by omega))).alloc (by omega) (.cells bD 24);unfold bD at gm gx;obtain⟨d0,d1,d2,d3,e0,e1,e2,e3⟩:=ag gm;clear gj HF;(go_wp2_with fail);exact pR HE.out gx gm (jE _) rfl (by rfl) (by rfl) rfl
     | some n2=>
      have ji:cJ r=(cJ (r.drop (j+1))).map fun z=>(acc++[n2])++z:=by
       rw[gj,jg,cJ,jp];cases cJ (r.drop (j+1))with
       |none=>rfl
       |some z=>simp
      rintro e w7⟨M,A7,c7,rfl,h7,-⟩;have jz:=M.size;have jn:=aq.cells h7;have jx:=fun g hg=>(ht.lt g hg).2;have ka:=(ht.keep (w':=w7) fun b _ _ J=>M.block b J).keep (w':=w7.alloc (.cells (nv n2 A7 c7) 24)) fun b _ _ J=>gW w7 _ b J;have hu:=(jm.bl M).alloc (.cells (nv n2 A7 c7) 24);have gm:=(hw.bl M).alloc (.cells (nv n2 A7 c7) 24);have gx:=(hz.trans (M.mono (by omega))).alloc (show w.heap.size+2<=w7.heap.size by omega) (.cells (nv n2 A7 c7) 24);have j8:=au.new w7 24 (nv n2 A7 c7);have ke:=jn.keep (w':=w7.alloc (.cells (nv n2 A7 c7) 24)) fun b _ J=>gW w7 _ b J;(have jy:(w7.alloc (.cells (nv n2 A7 c7) 24)).heap.size=w7.heap.size+1:=by simp);clear gj HF ht jm hw hz jh h8 h7 jn M t0 t1 t2 t3;(go_upto_region 16 with fail);change Code.wp _ _ _ _ (w7.alloc (.cells (nv n2 A7 c7) 24));generalize hUU:w7.heap.size=U at *;generalize w7.alloc (.cells (nv n2 A7 c7) 24)=w8 at *;obtain⟨t0,t1,t2,t3,-,-,-,-⟩:=ag j8;obtain⟨y0,y1,y2,y3,f0,f1,f2,f3⟩:=ag hu;have kf:=hu.lt;have kg:=gm.lt;(have kj:L≠w8.heap.size:=by omega);go_wp2_with (at_builtin;refine B0 rfl (.tmp 65) (.tmp 67) rfl (w.heap.size+2) w6.heap.size L (fun b=>X b/\b<w.heap.size) w8 (.slice A4 acc.length c4) acc n2 A7 c7 rfl _ rfl (by first|exact jy|rfl) ka (fun b hb=>by have:=hb.2;omega) (by omega) (by omega) je (by omega) jx (by omega) ke ?_;intro g9 c9 w9 hO9 hB9 hL9;have g0:au w9 L 24 #[.int .i64 mk,.string mt,.slice A4 acc.length c4,.int .i64 mp]:=Eq.trans hL9 hu;obtain⟨z0,z1,z2,z3,h0,h1,h2,h3⟩:=ag g0);go_roundg (gk-1)
      case measure=>omega
      case rel=>
       have kt:=hB9.size;refine⟨j+1,acc++[n2],some ⟨g9,0,none⟩,c9,rfl,by omega,by simp;omega,?_,?_,?_,?_,?_,fun h=>by simp at h,ji⟩
       ·rw[gJ];exact hO9.keep fun b _ hne _=>jQ w9 ⟨L,2,none⟩ _ b hne
       ·rw[gJ];simpa using g0.set_ 2 (.slice (some ⟨g9,0,none⟩) (acc.length+1) c9)
       ·exact(gm.below hB9 (by omega)).far (p:=⟨L,2,none⟩) (by show w.heap.size+1≠L;omega) _
       ·exact(gx.trans hB9).setCell (p:=⟨L,2,none⟩) je _
       ·simp;omega
end
section
open Go.RowKit Go.Lib Go.Proofs
attribute [local go_sem ↓] Go.wp_at_zero Go.wp_at_succ
attribute [local go_sem] aS aT aU bu bv bw bz
def L1(E:co)(w:World)(r:bH (Nd×Bool))(e:Ending)(w':World):Prop:=
 match r with
 | .ok x s=>(∃v,e=.returned (.tuple #[v,.bool x.2])/\aq (fun b=>w.heap.size<=b) w' v x.1)/\aD E s w w'
 | .fail p=>e=al p/\w.grownBy w' (some E.R)
 | .out=>False
def F0(E:co):Prop:=(∀t∈E.c.toks,t.kind=4->∀w,ON E w->Calls Tryz.prog 79 #[.string t.text] w fun e w'=>(∃v,e=.returned (.tuple #[.string (lY t.text),v]))/\Below w w w') /\
 (∀t∈E.c.toks,t.kind=5->∀w,ON E w->Calls Tryz.prog 80 #[.string t.text] w fun e w'=>(∃v,e=.returned (.tuple #[.string (i6 t.text),v]))/\Below w w w')
theorem tX{E:co}{w wk:World}{res:bH (Nd×Bool)}{n:Nd}{bb:Bool}{s:St}{X:Nat->Prop}{a0 a1 a2 a3 z0 z1 z2 z3:Value}{g q rr:Nat}{fn:Func}{a:Act}(O:res=.ok (n,bb) s)
  (M:aq X wk (.agg #[a0,a1,a2,a3]) n)(U:aD E s w wk)(hb:au wk g 24 #[z0,z1,z2,z3])(h:w.heap.size<=g)(hR:E.R<g)(J:∀b,X b->w.heap.size<=b/\b≠g)
  (I:fn.results = #[.cell q 24,.tmp rr])(N:a.tmps.getD q undef=.pointer (some ⟨g,0,none⟩))(D:a.tmps.getD rr undef=.bool bb)(hd:a.defers=[]):
  bodyPost Tryz.prog fn (L1 E w res) .ret a (ck wk g a0 a1 a2 a3):=by refine jL (r8 I _ N D (cg hb a0 a1 a2 a3)) hd ?_;rw[O];exact⟨⟨_,rfl,(M.kept (dq (fun b hb=>(J b hb).2) _ _ _ _)).mono fun b hb _=>(J b hb).1⟩,fe U h hR _ _ _ _⟩
theorem tb{E:co}{w w1 w2:World}{res:bH (Nd×Bool)}{p:Int}(D:res=.fail p)(J:w.grownBy w1 (some E.R))(I:w1.grownBy w2 (some E.R)):L1 E w res (al p) w2:=by rw[D];exact⟨rfl,J.trans I⟩
theorem Dz{w:World}{T:Nat}{t:TypeId}{a b c:Value}(h:au w T t #[a,b,c]):w.cell? ⟨T,0,none⟩=some a/\w.cell? ⟨T,1,none⟩=some b/\w.cell? ⟨T,2,none⟩=some c:=
 ⟨(h.cell 0).trans rfl,(h.cell 1).trans rfl,(h.cell 2).trans rfl⟩
theorem Ph(E:co)(i:Nat)(I:(ar E.c i).kind≠0):i<E.c.toks.length/\ar E.c i∈E.c.toks:=by
 rcases jZ i E.c.toks.length with D|D
 ·refine⟨D,?_⟩;unfold ar;rw[gQ D];exact jC D
 ·rw[ov E.c i D]at I;exact absurd rfl I
theorem uD(E:co)(F:fJ)(hF:oy E F)(gy:F0 E)(w:World)(s:St)(h:aR E w s)(gv:cx F E.c s≠.out):
  Calls Tryz.prog 184 #[E.R] w (L1 E w (cx F E.c s)):=by
 generalize hres:cx F E.c s=res at *;have g5:=hid gv;have gg:=h.lt;have ho:=h.most;have h8:=h.le;have gm:=hid (Ph E s.at_);have gi:=hid (show(if(ar E.c s.at_).kind=1 then .ok (.mk 18 (ar E.c s.at_).text [] (ar E.c s.at_).pos,true) (adv { s with part :=-1 })
  else if(ar E.c s.at_).kind=4 then .ok (.mk 16 (lY (ar E.c s.at_).text) [] (ar E.c s.at_).pos,false) (adv { s with part :=-1 })
  else if(ar E.c s.at_).kind=5 then .ok (.mk 17 (i6 (ar E.c s.at_).text) [] (ar E.c s.at_).pos,false) (adv { s with part :=-1 })
  else if aP E.c { s with part :=-1 } (⟨#[40]⟩:BA)then(ce F.expr E.c (adv { s with part :=-1 })).bind fun x s1=>(need ⟨#[41]⟩ E.c s1).bind fun _ s2=>.ok (x,false) s2
  else if aP E.c { s with part :=-1 } (⟨#[102,117,110,99]⟩:BA)then(du F (ar E.c s.at_).pos (decide (s.part=(s.at_:Int))) E.c (adv { s with part :=-1 })).bind fun x s1=>.ok (x,false) s1
  else if dp E.c { s with part :=-1 }then(ir F (decide (s.part=(s.at_:Int))) E.c { s with part :=-1 }).bind fun x s1=>.ok (x,false) s1
  else .fail (ar E.c s.at_).pos)=res from hres)
 clear hres gv;have hl:(s.part==(s.at_:Int))=decide (s.part=(s.at_:Int)):=Bool.beq_eq_decide_eq _ _;(go_enter Tryz.func184,Tryz.ntmps184);(go_wp2_with fail);refine(bL E s _ (h.alloc _)).mono ?_;unfold it;rintro e w1⟨rfl,gx⟩;have hg:=(((cU.refl h).alloc _).step gx).moved;have hj:=(au.new w 24 bD).below gx (by simp);(have h7:w.heap.size+1<=w1.heap.size:=by have:=gx.size;simp at this;omega);clear gx;generalize hm:ar E.c s.at_=tk at *;generalize decide (s.part=(s.at_:Int))=types at *;have hf:=au.new w1 43 #[.int .i64 tk.kind,.string tk.text,.int .i64 tk.pos];have hi:=hj.alloc (.cells #[.int .i64 tk.kind,.string tk.text,.int .i64 tk.pos] 43);have g4:=hg.alloc (.cells #[.int .i64 tk.kind,.string tk.text,.int .i64 tk.pos] 43);(have g9:w1.heap.size+1<=(w1.alloc (.cells #[.int .i64 tk.kind,.string tk.text,.int .i64 tk.pos] 43)).heap.size:=by simp);(go_upto_region 2 with fail);generalize hTT:w1.heap.size=T at *;change Code.wp _ _ _ _ (w1.alloc (.cells #[.int .i64 tk.kind,.string tk.text,.int .i64 tk.pos] 43));generalize w1.alloc (.cells #[.int .i64 tk.kind,.string tk.text,.int .i64 tk.pos] 43)=w2 at *;(have ja:T≠w.heap.size:=by omega);(have gp:T≠E.R:=by omega);clear hTT hj hg;obtain⟨-,c1,-,-,c4,cf⟩:=g4.rd.cells;have f4:=cf 4;(go_wp2_with fail);go_quiet (fail);have he:=hf.drewN nq;have hh:=hi.drewN nq;have g3:=g4.drewN nq;have g7:T+1<=(w2.drewN nq).heap.size:=g9;clear c1 c4 cf f4 hf hi g4;generalize w2.drewN nq=w3 at *;obtain⟨-,-,-,-,c4,cf⟩:=g3.rd.cells;have f4:=cf 4;have gb:=he.far (p:=⟨E.R,4,none⟩) gp (.int .i64 (-1));have ge:=hh.far (p:=⟨E.R,4,none⟩) (by show w.heap.size≠E.R;omega) (.int .i64 (-1));have M:=g3.setPart (-1);(go_upto_region 4 with fail);(have gz:T+1<=(w3.setCell ⟨E.R,4,none⟩ (.int .i64 (-1))).heap.size:=by simpa using g7);generalize w3.setCell ⟨E.R,4,none⟩ (.int .i64 (-1))=w4 at *;generalize hq:({ s with part :=-1 }:St)=q at *;(have g0:q.at_=s.at_:=by rw[<-hq]);clear hq f4 cf c4 he hh g3 g7 g9;obtain⟨t0,t1,t2⟩:=Dz gb;obtain⟨-,c1,-,-,-,cf⟩:=M.rd.cells;have f1:=cf 1;rw[g0]at c1;have g8:IntKind.i64.wrap ((s.at_:Int)+1)=(s.at_:Int)+1:=gO _ (by omega);(have gl:({ q with at_:=s.at_+1 }:St)=adv q:=by unfold adv;rw[g0]);by_cases h1:tk.kind=1
 ·have HF:=hid (show res=.ok (.mk 18 tk.text [] tk.pos,true) (adv q)by rw[<-gi.out,gE h1]);have k1:(tk.kind==1)=true:=beq_iff_eq.2 h1;have U:=gb.far (p:=⟨E.R,1,none⟩) gp (.int .i64 ((s.at_:Int)+1));have O:=ge.far (p:=⟨E.R,1,none⟩) (by show w.heap.size≠E.R;omega) (.int .i64 ((s.at_:Int)+1));have D:=M.setAt (s.at_+1) (by have:=(gm.out (by omega)).1;omega);rw[show((s.at_+1:Nat):Int)=(s.at_:Int)+1 from rfl,gl]at D;clear h1;(go_upto_region 6 with fail);(have gs:T+1<=(w4.setCell ⟨E.R,1,none⟩ (.int .i64 ((s.at_:Int)+1))).heap.size:=by simpa using gz);generalize w4.setCell ⟨E.R,1,none⟩ (.int .i64 ((s.at_:Int)+1))=w5 at *;clear t0 t1 t2 c1 cf f1 gb ge M;obtain⟨t0,t1,t2⟩:=Dz U;(go_wp2_with fail);refine(aN _ _ _ _ _ ⟨_,_,_,rfl⟩).mono ?_;rintro e w6⟨rfl,gh⟩;have N:=O.bl gh;have J:=D.step gh;obtain⟨d0,d1,d2,d3,e0,e1,e2,e3⟩:=ag N;(go_wp2_with fail);exact tX (X:=fun _=>False) HF.out (aq.leaf 18 tk.text tk.pos) J N (d5 _) gg (fun _ h=>h.elim) rfl (by rfl) (by rfl) rfl
 have k1:(tk.kind==1)=false:=beq_eq_false_iff_ne.2 h1;by_cases h4:tk.kind=4
 ·have HF:=hid (show res=.ok (.mk 16 (lY tk.text) [] tk.pos,false) (adv q)by rw[<-gi.out,gA h1,gE h4]);have HL:=hid (gy.1 tk (gm.out (by omega)).2 h4);have k4:(tk.kind==4)=true:=beq_iff_eq.2 h4;have U:=gb.far (p:=⟨E.R,1,none⟩) gp (.int .i64 ((s.at_:Int)+1));have O:=ge.far (p:=⟨E.R,1,none⟩) (by show w.heap.size≠E.R;omega) (.int .i64 ((s.at_:Int)+1));have D:=M.setAt (s.at_+1) (by have:=(gm.out (by omega)).1;omega);rw[show((s.at_+1:Nat):Int)=(s.at_:Int)+1 from rfl,gl]at D;clear h4;(go_upto_region 9 with fail);(have gs:T+1<=(w4.setCell ⟨E.R,1,none⟩ (.int .i64 ((s.at_:Int)+1))).heap.size:=by simpa using gz);generalize w4.setCell ⟨E.R,1,none⟩ (.int .i64 ((s.at_:Int)+1))=w5 at *;clear t0 t1 t2 c1 cf f1 gb ge M;obtain⟨t0,t1,t2⟩:=Dz U;(go_wp2_with fail);refine(HL.out _ D.rd.old).mono ?_;rintro e w7⟨⟨v7,rfl⟩,gk⟩;have g2:=U.bl gk;have gd:=O.bl gk;have I:=D.step gk;clear t0 t1 t2;obtain⟨t0,t1,t2⟩:=Dz g2;(go_wp2_with fail);refine(aN _ _ _ _ _ ⟨_,_,_,rfl⟩).mono ?_;rintro e w6⟨rfl,gh⟩;have N:=gd.bl gh;have J:=I.step gh;obtain⟨d0,d1,d2,d3,e0,e1,e2,e3⟩:=ag N;(go_wp2_with fail);exact tX (X:=fun _=>False) HF.out (aq.leaf 16 (lY tk.text) tk.pos) J N (d5 _) gg (fun _ h=>h.elim) rfl (by rfl) (by rfl) rfl
 have k4:(tk.kind==4)=false:=beq_eq_false_iff_ne.2 h4;by_cases h5:tk.kind=5
 ·have HF:=hid (show res=.ok (.mk 17 (i6 tk.text) [] tk.pos,false) (adv q)by rw[<-gi.out,gA h1,gA h4,gE h5]);have HL:=hid (gy.2 tk (gm.out (by omega)).2 h5);have k5:(tk.kind==5)=true:=beq_iff_eq.2 h5;have U:=gb.far (p:=⟨E.R,1,none⟩) gp (.int .i64 ((s.at_:Int)+1));have O:=ge.far (p:=⟨E.R,1,none⟩) (by show w.heap.size≠E.R;omega) (.int .i64 ((s.at_:Int)+1));have D:=M.setAt (s.at_+1) (by have:=(gm.out (by omega)).1;omega);rw[show((s.at_+1:Nat):Int)=(s.at_:Int)+1 from rfl,gl]at D;clear h5;(go_upto_region 13 with fail);(have gs:T+1<=(w4.setCell ⟨E.R,1,none⟩ (.int .i64 ((s.at_:Int)+1))).heap.size:=by simpa using gz);generalize w4.setCell ⟨E.R,1,none⟩ (.int .i64 ((s.at_:Int)+1))=w5 at *;clear t0 t1 t2 c1 cf f1 gb ge M;obtain⟨t0,t1,t2⟩:=Dz U;(go_wp2_with fail);refine(HL.out _ D.rd.old).mono ?_;rintro e w7⟨⟨v7,rfl⟩,gk⟩;have g2:=U.bl gk;have gd:=O.bl gk;have I:=D.step gk;clear t0 t1 t2;obtain⟨t0,t1,t2⟩:=Dz g2;(go_wp2_with fail);refine(aN _ _ _ _ _ ⟨_,_,_,rfl⟩).mono ?_;rintro e w6⟨rfl,gh⟩;have N:=gd.bl gh;have J:=I.step gh;obtain⟨d0,d1,d2,d3,e0,e1,e2,e3⟩:=ag N;(go_wp2_with fail);exact tX (X:=fun _=>False) HF.out (aq.leaf 17 (i6 tk.text) tk.pos) J N (d5 _) gg (fun _ h=>h.elim) rfl (by rfl) (by rfl) rfl
 have k5:(tk.kind==5)=false:=beq_eq_false_iff_ne.2 h5;have HR:=hid (show(if aP E.c q ⟨#[40]⟩then(ce F.expr E.c (adv q)).bind fun x s1=>(need ⟨#[41]⟩ E.c s1).bind fun _ s2=>.ok (x,false) s2
  else if aP E.c q ⟨#[102,117,110,99]⟩then(du F tk.pos types E.c (adv q)).bind fun x s1=>.ok (x,false) s1
  else if dp E.c q then(ir F types E.c q).bind fun x s1=>.ok (x,false) s1
  else .fail tk.pos)=res by rw[<-gi.out,gA h1,gA h4,gA h5])
 clear gi h1 h4 h5 gm c1 cf f1 g8 gl;(go_wp2_with fail);cases hA:aP E.c q ⟨#[40]⟩with
 | true=>
  have HE:=hid (show((ce F.expr E.c (adv q)).bind fun x s1=>(need ⟨#[41]⟩ E.c s1).bind fun _ s2=>.ok (x,false) s2)=res by rw[<-HR.out,gE hA]);refine(bi E q _ _ M.rd hA).mono ?_;rintro e w5⟨rfl,gw⟩;have O:=ge.grown gw.gr;have D:=M.trans gw;have gs:=gw.gr.size;clear HR hA gb ge M gw t0 t1 t2;(go_wp2_with fail);have HC:=hid (fun gv=>CQ E 41 #[E.R] #[] F.expr (adv q) w5 D.rd (fun a w=>by kernel_rfl) (show fP E 41 (#[.pointer (some ⟨E.R,0,none⟩)] ++ #[]) F.expr w5 from hF.expr.part w5) gv);cases hP:ce F.expr E.c (adv q)with
  |out=>exact absurd HE.out.symm (by rw[hP];exact g5.out)
  |fail p=>refine(HC.out (by rw[hP];exact nofun)).mono ?_;rw[hP];rintro e w6⟨rfl,ht⟩;unfold al;exact⟨rfl,tb (by rw[<-HE.out,hP];rfl) D.gr ht⟩
  |ok n s1=>
   have hk:=hid (show((need ⟨#[41]⟩ E.c s1).bind fun _ s2=>.ok (n,false) s2)=res by rw[<-HE.out,hP];rfl);refine(HC.out (by rw[hP];exact nofun)).mono ?_;rw[hP];rintro e w6⟨⟨v,rfl,hv⟩,ga⟩;obtain⟨A6,c6,rfl,-⟩:=hv.toC;have gd:=(O.grown ga.gr).alloc (.cells (nv n A6 c6) 24);have I:=(D.trans ga).alloc (.cells (nv n A6 c6) 24);have hy:=au.new w6 24 (nv n A6 c6);have g6:=ga.gr.size;have h0:=hv.keep (w':=w6.alloc (.cells (nv n A6 c6) 24)) fun b _ hlt=>gW w6 _ b hlt;clear HC HE hP O D hv ga;(go_upto_region 17 with fail);change Code.wp _ _ _ _ (w6.alloc (.cells (nv n A6 c6) 24));generalize hXX:w6.heap.size=X at *;generalize w6.alloc (.cells (nv n A6 c6) 24)=w7 at *;(have hu:X≠E.R:=by omega);(go_wp2_with fail);cases hB:aP E.c s1 ⟨#[41]⟩with
   |false=>refine(eJ E s1 _ _ I.rd hB).mono ?_;rintro e w8⟨rfl,g1⟩;unfold al;exact⟨rfl,tb (by rw[<-hk.out,need,gA (by rw[hB];decide)];rfl) I.gr (ak _ g1)⟩
   |true=>have HF:=hid (show res=.ok (n,false) (adv s1)by rw[<-hk.out,need,gE hB];rfl);refine(dA E s1 _ _ I.rd hB).mono ?_;rintro e w8⟨rfl,gj⟩;have gq:=gd.grown gj.gr;have hw:=hy.grown gj.gr (fun e=>hu (by injection e));have h3:=I.trans gj;have hz:=h0.keep (w':=w8) (am.of_grown (X:=fun b=>w5.heap.size<=b) gj.gr).block;obtain⟨x0,x1,x2,x3,-,-,-,-⟩:=ag hw;obtain⟨d0,d1,d2,d3,e0,e1,e2,e3⟩:=ag gq;(go_wp2_with fail);refine tX HF.out hz h3 gq (d5 _) gg ?_ rfl (by rfl) (by rfl) rfl;intro b hb;constructor<;>omega
 | false=>
  refine(bA E q _ _ M.rd hA).mono ?_;rintro e w5⟨rfl,gn⟩;have U:=gb.bl gn.bel;have O:=ge.bl gn.bel;have D:=M.trans gn.moved;have gs:=gn.bel.size;clear gb ge M gn t0 t1 t2;obtain⟨t0,t1,t2⟩:=Dz U;(go_wp2_with fail);cases hB:aP E.c q ⟨#[102,117,110,99]⟩with
  |true=>
   have HE:=hid (show((du F tk.pos types E.c (adv q)).bind fun x s1=>.ok (x,false) s1)=res by rw[<-HR.out,gA (by rw[hA];decide),gE hB]);refine(bi E q _ _ D.rd hB).mono ?_;rintro e w6⟨rfl,ga⟩;have h2:=U.grown ga.gr (fun e=>gp (by injection e));have N:=O.grown ga.gr;have J:=D.trans ga;have g6:=ga.gr.size;clear HR hA hB U O D ga t0 t1 t2;obtain⟨t0,t1,t2⟩:=Dz h2;(go_wp2_with fail);cases hP:du F tk.pos types E.c (adv q)with
   |out=>exact absurd HE.out.symm (by rw[hP];exact g5.out)
   |fail p=>refine(ta E F hF tk.pos types _ _ J.rd (by rw[hP];exact nofun)).mono ?_;rw[hP];rintro e w7⟨rfl,hr⟩;unfold al;exact⟨rfl,tb (by rw[<-HE.out,hP];rfl) J.gr hr⟩
   |ok n s1=>have HF:Hid (res=.ok (n,false) s1):=hid (by rw[<-HE.out,hP];rfl);refine(ta E F hF tk.pos types _ _ J.rd (by rw[hP];exact nofun)).mono ?_;rw[hP];rintro e w7⟨⟨v,rfl,hv⟩,ha⟩;obtain⟨A7,c7,rfl,-⟩:=hv.toC;have gd:=N.grown ha.gr;obtain⟨d0,d1,d2,d3,e0,e1,e2,e3⟩:=ag gd;(go_wp2_with fail);refine tX HF.out hv (J.trans ha) gd (d5 _) gg ?_ rfl (by rfl) (by rfl) rfl;intro b hb;constructor<;>omega
  | false=>
   refine(bA E q _ _ D.rd hB).mono ?_;rintro e w6⟨rfl,gu⟩;have N:=O.bl gu.bel;have J:=D.trans gu.moved;have g6:=gu.bel.size;clear U O D gu t0 t1 t2;(go_wp2_with fail);refine(ri E q _ J.rd).mono ?_;rintro e w7⟨rfl,gt⟩;have gd:=N.bl gt.bel;have I:=J.trans gt.moved;have h6:=gt.bel.size;clear N J gt;cases hC:dp E.c q with
   |true=>
    have HE:=hid (show((ir F types E.c q).bind fun x s1=>.ok (x,false) s1)=res by rw[<-HR.out,gA (by rw[hA];decide),gA (by rw[hB];decide),gE hC]);(go_wp2_with fail);cases hP:ir F types E.c q with
    |out=>exact absurd HE.out.symm (by rw[hP];exact g5.out)
    |fail p=>refine(ya E F hF types _ q I.rd (by rw[hP];exact nofun)).mono ?_;rw[hP];rintro e w8⟨rfl,hp⟩;unfold al;exact⟨rfl,tb (by rw[<-HE.out,hP];rfl) I.gr hp⟩
    |ok n s1=>have HF:Hid (res=.ok (n,false) s1):=hid (by rw[<-HE.out,hP];rfl);refine(ya E F hF types _ q I.rd (by rw[hP];exact nofun)).mono ?_;rw[hP];rintro e w8⟨⟨v,rfl,hv⟩,gj⟩;obtain⟨A8,c8,rfl,-⟩:=hv.toC;have gq:=gd.grown gj.gr;obtain⟨d0,d1,d2,d3,e0,e1,e2,e3⟩:=ag gq;(go_wp2_with fail);refine tX HF.out hv (I.trans gj) gq (d5 _) gg ?_ rfl (by rfl) (by rfl) rfl;intro b hb;constructor<;>omega
   |false=>(have hn:av E.c q=tk.pos:=by unfold av;rw[g0,hm]);(go_wp2_with fail);refine(eE E q _ I.rd).mono ?_;rintro e w8⟨rfl,g1⟩;unfold al;exact⟨rfl,tb (by rw[<-HR.out,gA (by rw[hA];decide),gA (by rw[hB];decide),gA (by rw[hC];decide),hn]) I.gr (ak _ g1)⟩
def Mq(E:co)(X:Nat->Prop)(w:World)(r:bH Nd)(e:Ending)(w':World):Prop:=
 match r with
 | .ok n s=>(∃v,e=.returned v/\aq (fun b=>X b\/w.heap.size<=b) w' v n)/\aD E s w w'
 | .fail p=>e=al p/\w.grownBy w' (some E.R)
 | .out=>False
theorem Io{E:co}{X0:Nat->Prop}{w wk:World}{res:bH Nd}{n:Nd}{s:St}{X:Nat->Prop}{a0 a1 a2 a3 z0 z1 z2 z3:Value}{g q:Nat}{fn:Func}{a:Act}(N:res=.ok n s)
  (J:aq X wk (.agg #[a0,a1,a2,a3]) n)(O:aD E s w wk)(hb:au wk g 24 #[z0,z1,z2,z3])(U:w.heap.size<=g)(h:E.R<g)(I:∀b,X b->(X0 b\/w.heap.size<=b)/\b≠g)
  (D:fn.results = #[.cell q 24])(M:a.tmps.getD q undef=.pointer (some ⟨g,0,none⟩))(hd:a.defers=[]):
  bodyPost Tryz.prog fn (Mq E X0 w res) .ret a (ck wk g a0 a1 a2 a3):=by refine jL (eX D _ M (cg hb a0 a1 a2 a3)) hd ?_;rw[N];exact⟨⟨_,rfl,(J.kept (dq (fun b hb=>(I b hb).2) _ _ _ _)).mono fun b hb _=>(I b hb).1⟩,fe O U h _ _ _ _⟩
theorem Bg{E:co}{X0:Nat->Prop}{w w1 w2:World}{res:bH Nd}{p:Int}(D:res=.fail p)(J:w.grownBy w1 (some E.R))(I:w1.grownBy w2 (some E.R)):Mq E X0 w res (al p) w2:=by rw[D];exact⟨rfl,J.trans I⟩
theorem Ip{E:co}{sA s2:St}{X:Nat->Prop}{w D N w8:World}{K O G:Nat}{x:Nd}{l:List Nd}{A:Option Addr}{cp:Nat}{A8:Option Addr}{c8:Nat}{ys:List Value}
  (gi:aD E sA w D)(hC:bK (fun b=>X b/\b<w.heap.size) D x [.int .i64 x.kind,.string x.text,.slice A x.kids.length cp,.int .i64 x.pos])
  (ge:¬ X E.R)(gk:E.R<w.heap.size)(ga:w.heap.size<=K)(gu:K<D.heap.size)(gq:O<D.heap.size)(h:w.heap.size<=O)(gs:K≠O)(gv:G<D.heap.size)(gl:w.heap.size<=G)(gt:K≠G)(gp:O≠G)
  (M:aD E s2 D.drew N)(gd:an (fun b=>D.drew.heap.size<=b) N l ys)
  (J:w8.ownsRow K 24 4 (.slice A8 (1+l.length) c8) (1+l.length) ([.int .i64 x.kind,.string x.text,.slice A x.kids.length cp,.int .i64 x.pos]++ys))(I:N.grownBy w8 (some K))
  (U:(Value.slice A8 (1+l.length) c8).ownBlock=some K\/(Value.slice A8 (1+l.length) c8).ownBlock=some N.heap.size)(kind:Int)(t:ByteArray)(pos:Int)(o:Nat)(u:Value):
  aq (fun b=>(X b\/w.heap.size<=b)/\b≠G/\b≠O) (w8.setCell ⟨O,o,none⟩ u) (.agg #[.int .i64 kind,.string t,.slice A8 (1+l.length) c8,.int .i64 pos]) (.mk kind t (x::l) pos)/\aD E s2 w (w8.setCell ⟨O,o,none⟩ u):=by
 have hd:D.drew.heap.size=D.heap.size:=rfl;have gn:D.heap.size<=N.heap.size:=M.gr.size;have gm:=I.size;have gj:=(((hC.keep (w:=D) (w':=D.drew) (fun _ _ _=>rfl)).keep (w':=N) (am.of_grown (X:=fun b=>X b/\b<w.heap.size) M.gr (fun g e hX=>by injection e with e;subst e;exact ge hX.1)).block).keep (w':=w8) (am.of_grown (X:=fun b=>X b/\b<w.heap.size) I).block).mono (Y:=fun b=>(X b\/w.heap.size<=b)/\b≠G/\b≠O) (fun b hb _=>⟨.inl hb.1,by have:=hb.2;omega,by have:=hb.2;omega⟩);have gb:=(gd.keep (w':=w8) (am.of_grown (X:=fun b=>D.drew.heap.size<=b) I).block).mono (Y:=fun b=>(X b\/w.heap.size<=b)/\b≠G/\b≠O) (fun b hb _=>⟨.inr (by omega),by omega,by omega⟩);have gh:=r7 (X:=fun b=>(X b\/w.heap.size<=b)/\b≠G/\b≠O) (l:=x::l) J (by simp;omega) (fun g hg=>by
  rcases U with e|e<;>rw[hg]at e<;>injection e with e
  ·exact⟨.inr (by omega),by omega,by omega⟩
  ·exact⟨.inr (by omega),by omega,by omega⟩) (an.cons gj gb)
 have gg:=gh.kept (am.setCell (am.refl (fun b=>(X b\/w.heap.size<=b)/\b≠G/\b≠O) w8) (p:=⟨O,o,none⟩) (fun hX=>hX.2.2 rfl) u);refine⟨aq.of_slice gg kind t pos,?_⟩;exact((gi.drew.trans M).grownNew I ga (by omega)).own (p:=⟨O,o,none⟩) h (by show E.R<O;omega) u
theorem th(E:co)(F:fJ)(hF:oy E F)(X:Nat->Prop)(gv:¬ X E.R)(w:World)(s:St)(x:Nd)(v:Value)(h:aR E w s)(hv:aq X w v x)(gs:da F x E.c s≠.out):
  Calls Tryz.prog 190 #[E.R,v] w (Mq E X w (da F x E.c s)):=by
 obtain⟨A,cp,rfl,hC⟩:=hv.toC;generalize hres:da F x E.c s=res at *;have gd:=hid (show(need ⟨#[123]⟩ E.c s).bind (fun _ s1=>(ce (aX F.expr ⟨#[125]⟩ F.g []) E.c s1).bind fun l s2=>.ok (.mk 24 ⟨#[]⟩ (x::l) x.pos) s2)=res from hres);have hz:=hid gs;have gu:=h.lt;have hC:=hC.mono (Y:=fun b=>X b/\b<w.heap.size) (fun b hb M=>⟨hb,M⟩);have h7:=hF.g;clear hres gs hv;have gj:Below w w (((w.alloc (.cells #[E.R] 52)).alloc (.cells (nv x A cp) 24)).alloc (.cells bD 24)):=bel;have gl:au (((w.alloc (.cells #[E.R] 52)).alloc (.cells (nv x A cp) 24)).alloc (.cells bD 24)) w.heap.size 52 #[E.R]:=((au.new w _ _).alloc _).alloc _;have gx:au (((w.alloc (.cells #[E.R] 52)).alloc (.cells (nv x A cp) 24)).alloc (.cells bD 24)) (w.heap.size+1) 24 (nv x A cp):=(au.new_at (by simp) _ _).alloc _;have ha:au (((w.alloc (.cells #[E.R] 52)).alloc (.cells (nv x A cp) 24)).alloc (.cells bD 24)) (w.heap.size+1+1) 24 bD:=au.new_at (by simp) _ _;have gb:=(aD.refl h).step gj;(have h5:w.heap.size+3<=(((w.alloc (.cells #[E.R] 52)).alloc (.cells (nv x A cp) 24)).alloc (.cells bD 24)).heap.size:=by simp);have hC:=hC.keep (w':=((w.alloc (.cells #[E.R] 52)).alloc (.cells (nv x A cp) 24)).alloc (.cells bD 24)) (fun b _ M=>gj.block b M);clear gj;(go_enter Tryz.func190,Tryz.ntmps190);(go_upto_region 1 with fail);change Code.wp _ _ _ _ (((w.alloc (.cells #[E.R] 52)).alloc (.cells (nv x A cp) 24)).alloc (.cells bD 24));generalize((w.alloc (.cells #[E.R] 52)).alloc (.cells (nv x A cp) 24)).alloc (.cells bD 24)=w1 at *;have c0:=AU gl;(go_wp2_with fail);cases hA:aP E.c s ⟨#[123]⟩with
 |false=>refine(eJ E s _ _ gb.rd hA).mono ?_;rintro e N⟨rfl,hq⟩;unfold al;exact⟨rfl,Bg (by rw[<-gd.out,need];simp[hA]) gb.gr (ak _ hq)⟩
 | true=>
  have HE:=hid (show(ce (aX F.expr ⟨#[125]⟩ F.g []) E.c (adv s)).bind (fun l s2=>.ok (.mk 24 ⟨#[]⟩ (x::l) x.pos) s2)=res by rw[<-gd.out,need];simp only[hA,kJ,bH.bind_ok]);refine(dA E s _ _ gb.rd hA).mono ?_;rintro e N⟨rfl,J⟩;have hg:=gl.grown J.gr;have gw:=gx.grown J.gr;have g9:=ha.grown J.gr;have g1:=gb.trans J;have h4:=J.gr.size;have hC:=hC.keep (w':=N) (am.of_grown (X:=fun b=>X b/\b<w.heap.size) J.gr (fun g e hX=>by injection e with e;subst e;exact gv hX.1)).block;clear gd hA gl gx ha gb J c0;obtain⟨x0,x1,x2,x3,-,-,-,-⟩:=ag gw;(go_wp2_with fail);refine(aN _ _ _ _ _ ⟨_,_,_,rfl⟩).mono ?_;rintro e U⟨rfl,ge⟩;have I:Below N N U:=((gG _ N).alloc (d5 _) _).trans (ge.mono (by simp));have g5:=(au.new N 24 (nv x A cp)).below ge (by simp);have hf:=hg.bl I;have g8:=g9.bl I;have g0:=g1.step I;(have h3:N.heap.size+1<=U.heap.size:=by have:=ge.size;simp at this;omega);have hC:=hC.keep (w':=U) (fun b _ M=>I.block b M);clear ge I hg g9 gw g1 x0 x1 x2 x3;(go_upto_region 3 with fail);have D:=(aH U #[.int .i64 24,.string ⟨#[]⟩,.slice (some ⟨N,0,none⟩) 1 1,.int .i64 x.pos]).1;have gk:=au.new U 24 #[.int .i64 24,.string ⟨#[]⟩,.slice (some ⟨N,0,none⟩) 1 1,.int .i64 x.pos];have g4:=g5.bl D;have he:=hf.bl D;have g7:=g8.bl D;have gh:=g0.step D;have hC:=hC.keep (w':=U.alloc (.cells #[.int .i64 24,.string ⟨#[]⟩,.slice (some ⟨N,0,none⟩) 1 1,.int .i64 x.pos] 24)) (fun b _ M=>D.block b M);(have h2:U.heap.size+1<=(U.alloc (.cells #[.int .i64 24,.string ⟨#[]⟩,.slice (some ⟨N,0,none⟩) 1 1,.int .i64 x.pos] 24)).heap.size:=by simp);clear g5 hf g8 g0 D;generalize hKK:N.heap.size=K at *;generalize hOO:U.heap.size=O at *;change Code.wp _ _ _ _ (U.alloc (.cells #[.int .i64 24,.string ⟨#[]⟩,.slice (some ⟨K,0,none⟩) 1 1,.int .i64 x.pos] 24));generalize U.alloc (.cells #[.int .i64 24,.string ⟨#[]⟩,.slice (some ⟨K,0,none⟩) 1 1,.int .i64 x.pos] 24)=w6 at *;clear hKK hOO;(have g2:K≠O:=by omega);(have ht:K≠E.R:=by omega);(have hr:O≠E.R:=by omega);(have gy:O≠w.heap.size+1+1:=by omega);(have g3:K≠w.heap.size+1+1:=by omega);have hh:Hid (tN E 224 (#[] ++ #[.pointer (some ⟨w,0,none⟩)]) (aX F.expr ⟨#[125]⟩ F.g []) w6.drew):=hid (Dv E F hF w.heap.size w6.drew (show w6.drew.cell? ⟨w,0,none⟩=_ from AU he) (by omega));(have gi:∀a w,(callFunc 224 a).run Tryz.prog w=.ok (.enter 224 a) w:=fun a w=>by kernel_rfl);have hj:=hid gi;clear gi;have c0:=AU he;obtain⟨x0,x1,x2,x3,gq,gp,gn,gm⟩:=ag gk;cases hQ:ce (aX F.expr ⟨#[125]⟩ F.g []) E.c (adv s)with
  |out=>exact absurd HE.out.symm (by rw[hQ];exact hz.out)
  |fail q=>have HF:Hid (res=.fail q):=hid (by rw[<-HE.out,hQ];rfl);let SS:World->Prop:=fun w'=>w'.cell? ⟨O,2,none⟩=some (.slice (some ⟨K,0,none⟩) 1 1)/\w'.cell? ⟨w,0,none⟩=some (.pointer (some ⟨E.R,0,none⟩));have hy:SS w6.drew:=⟨x2,c0⟩;(refine gZ (S:=SS) (by kernel_rfl) hy ?_;intro gg;refine dL 0 gg ?_;refine dL 1 gg ?_;refine dL 2 gg ?_;refine dL 3 gg ?_;refine tM 4 fun K hK=>?_;go_simp);refine(lm E 224 #[] #[w] (aX F.expr ⟨#[125]⟩ F.g []) (adv s) _ gh.drew.rd hj.out hh.out (by rw[hQ];exact nofun)).mono ?_;rw[hQ];rintro e w7⟨rfl,hp⟩;unfold al;exact⟨rfl,Bg HF.out gh.drew.gr hp⟩
  | ok l s2=>
   have HF:Hid (res=.ok (.mk 24 ⟨#[]⟩ (x::l) x.pos) s2):=hid (by rw[<-HE.out,hQ];rfl);have h6:=pO hQ;have HC:=hid (lm E 224 #[] #[w] (aX F.expr ⟨#[125]⟩ F.g []) (adv s) _ gh.drew.rd hj.out hh.out (by rw[hQ];exact nofun));rw[hQ]at HC;obtain⟨i0,hi,hm,hl,hk⟩:=qH pF;clear HE hQ;go_region_law (first
    |(refine fC _ (by rfl) (.tmp 14) (.tmp 17) 22 (by rfl) K 24 i0 _ 4 56 Tryz.underlying22 hi hm hl hk (by rfl) (by omega) (.slice (some ⟨K,0,none⟩) 1 1) 1 [.int .i64 x.kind,.string x.text,.slice A x.kids.length cp,.int .i64 x.pos] (by rfl) (o6 hw (d5 _)) w7.heap.size A7 l.length c7 ys (by rfl) (oD ho (by omega)) (lq gt) (by unfold maxLen;omega) (by omega) (by omega) ?_;intro v8 w8 hown8 hg8 hat8;obtain⟨A8,c8,rfl,h8⟩:=pP hown8;have hu:=gz.grown hg8 (fun e=>g2 (by simpa[Value.ownBlock]using e.symm));obtain⟨x0,x1,x2,x3,gq,gp,gn,gm⟩:=ag hu)
    |(go_simp;(go_at_call 185);refine HC.out.mono ?_;rintro e w7⟨⟨v7,rfl,hn⟩,ga⟩;obtain⟨A7,c7,ys,rfl,h0,ho,gt⟩:=hn;have gz:=gk.drew.grown ga.gr (fun e=>hr (by injection e));have hw:=g4.drew.grown ga.gr (fun e=>ht (by injection e));have h1:w6.heap.size<=w7.heap.size:=ga.gr.size;obtain⟨x0,x1,x2,x3,gq,gp,gn,gm⟩:=ag gz))
   all_goals have hN:=Ip (G:=w.heap.size+1+1) (u:=.slice A8 (1+l.length) c8) (o:=2) gh hC gv gu (by omega) g4.lt gk.lt (by omega) g2 g7.lt (by omega) g3 gy ga gt hown8 hg8 hat8 24 ⟨#[]⟩ x.pos;have g6:=((g7.drew.grown ga.gr).grown hg8 (fun e=>g3 (by simpa[Value.ownBlock]using e.symm))).far (p:=⟨O,2,none⟩) (by exact gy.symm) (.slice A8 (1+l.length) c8);obtain⟨d0,d1,d2,d3,e0,e1,e2,e3⟩:=ag g6;(go_wp2_with fail);refine Io HF.out hN.1 hN.2 g6 (by omega) (by omega) ?_ rfl (by rfl) rfl;intro b hb;exact⟨hb.1,hb.2.1⟩
end
end Go.Proofs.YtiebcdeafofgdaaGreatDoor
