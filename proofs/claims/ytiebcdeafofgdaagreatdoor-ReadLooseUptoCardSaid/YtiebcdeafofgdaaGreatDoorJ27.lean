/-
  Parts of the proof: Rask Ras. By an AI agent.
-/
import Derived.Test.YtiebcdeafofgdaaGreatDoorJ26
open Go.Proofs.Tryz
set_option maxRecDepth 100000
set_option maxHeartbeats 8000000
namespace Go.Proofs.YtiebcdeafofgdaaGreatDoor
section
open Go.RowKit Go.Lib Go.Proofs
structure oD(B:Nat)(X:Nat->Prop)(L:Nat)(w:World)(v:Value)(l:List Nd):Prop where
 out:∃xs,w.ownsRow B 24 4 v l.length xs/\ag (fun b=>(X b\/B<=b)/\some b≠v.ownBlock/\b≠L) w l xs
 far:∀g,v.ownBlock=some g->g≠L
section
variable {B L:Nat} {X:Nat->Prop} {w w':World} {v:Value} {l:List Nd}
theorem oD.nil(B:Nat)(X:Nat->Prop)(L:Nat)(w:World):oD B X L w (.slice none 0 0) []:=⟨⟨[],vc _ _ _ _,ag.nil⟩,fun g h=>by simp[Value.ownBlock]at h⟩
theorem oD.lt(h:oD B X L w v l):∀g,v.ownBlock=some g->B<=g/\g<w.heap.size:=by obtain⟨xs,D,_⟩:=h.out;exact fun g hg=>D.lt g hg
theorem oD.keep(h:oD B X L w v l)(J:∀b,(X b\/B<=b)->b≠L->b<w.heap.size->w'.heap[b]? = w.heap[b]?):oD B X L w' v l:=by
 obtain⟨xs,N,O⟩:=h.out;refine⟨⟨xs,⟨N.1,?_⟩,O.keep fun b hb D=>J b hb.1 hb.2.2 D⟩,h.far⟩;rcases N.2 with U|⟨g,cap,cur,e,M,I,r⟩
 ·exact .inl U
 ·refine .inr ⟨g,cap,cur,e,M,?_,r⟩;have D:g<w.heap.size:=by
   rcases kN g w.heap.size with D|hge
   ·exact D
   ·rw[kO hge]at I;cases I
  exact(J g (.inr M) (h.far g (by rw[e];rfl)) D).trans I
theorem oD.values(h:oD B X L w v l):cS (fun b=>X b\/B<=b) w v l:=by
 obtain⟨xs,D,J⟩:=h.out;rcases D.2 with⟨rfl,h0⟩|⟨g,cap,cur,rfl,hg,U,I,_,N,M⟩
 ·exact⟨none,0,xs,by rw[h0],by omega,⟨D.1,fun h=>by omega⟩,J.mono fun b hb _=>hb.1⟩
 ·refine⟨_,cap,xs,rfl,I,⟨D.1,fun _=>⟨g,0,rfl,.inr hg,fun j u hu=>?_⟩⟩,J.mono fun b hb _=>hb.1⟩;(have O:j<l.length*4:=by have:=(List.getElem?_eq_some_iff.1 hu).1;rw[D.1]at this;exact this);rw[kS];unfold World.cell?;rw[U];simp only[qo,jC,kI];rw[<-M,vj O]at hu;rw[<-hu];simp
theorem oD.form(h:oD B X L w v l):∃A c,v=.slice A l.length c/\l.length<=c:=by obtain⟨A,c,xs,e,D,_⟩:=h.values;exact⟨A,c,e,D⟩
end
theorem Ls{o:Oper}{a:Act}{K:Act->World->Prop}{Q:Exit->Act->World->Prop}(s x:Operand)
  (ho:o.op=.call { callee:=.builtin .append,args:=#[s,x],argTypes:=#[22,22] })
  (B S L:Nat)(X:Nat->Prop)(w1:World)(u:Value)(l:List Nd)(n:Nd)(A:Option Addr)(cap:Nat)(hs:a.eval s=u)(T:Nat)(hx:a.eval x=.slice (some ⟨T,0,none⟩) 1 1)(hT:w1.heap.size=T)
  (hO:oD B X L w1 u l)(gb:∀b,X b->b<B)(hB:B<=S)(hS:S<=w1.heap.size)(gk:B<=L)(gj:L<S)(hu:∀g,u.ownBlock=some g->g<S)(hl:l.length<=1000000)
  (hV:bo (fun b=>X b\/S<=b) w1 n [.int .i64 n.kind,.string n.text,.slice A n.kids.length cap,.int .i64 n.pos])
  (h:∀g c w2,oD B X L w2 (.slice (some ⟨g,0,none⟩) (l.length+1) c) (l++[n])->Below B w1 w2->w2.heap[L]? = w1.heap[L]? ->K (a.put o.dst (.slice (some ⟨g,0,none⟩) (l.length+1) c)) w2):
  o.wp prog a (w1.alloc (.cells (nv n A cap) 24)) K Q:=by
 subst hT;obtain⟨i0,hi,gg,ge,gd⟩:=qO oK;obtain⟨xs,O,gh⟩:=hO.out;refine vx _ s x 22 ho B 24 i0 _ 4 56 underlying22 hi gg ge gd rfl (by omega) u l.length xs hs (O.alloc _) ⟨w1,0,none⟩ 1 1 [.int .i64 n.kind,.string n.text,.slice A n.kids.length cap,.int .i64 n.pos] hx rfl
  (qz (cs:=(nv n A cap)) (qu _ _)) (rI n A cap) (by omega) (by unfold maxLen;omega) (by omega) (by rw[jL];omega) _ rfl ?_
 intro g c w2 hown1 M ga _;have N:∀g,u.ownBlock=some g->B<=g:=fun g M=>(hO.lt g M).1;have I:∀b,b<w1.heap.size->some b≠u.ownBlock->w2.heap[b]? = w1.heap[b]? :=fun b hb hne=>(M.block b (by rw[jL];omega) hne).trans (jF w1 _ b hb);have gi:w1.heap.size<=w2.heap.size:=kC (by rw[jL];omega) M.size;have U:g≠L:=by
  rcases ga with e|e
  ·exact hO.far g e
  ·rw[jL]at e;omega
 have J:ag (fun b=>(X b\/B<=b)/\some b≠(Value.slice (some ⟨g,0,none⟩) (l.length+1) c).ownBlock/\b≠L) w2 (l++[n]) (xs++[.int .i64 n.kind,.string n.text,.slice A n.kids.length cap,.int .i64 n.pos]):=by
  have h1:ag (fun b=>(X b\/B<=b)/\some b≠u.ownBlock/\b≠L/\b<w1.heap.size) w1 (l++[n]) (xs++[.int .i64 n.kind,.string n.text,.slice A n.kids.length cap,.int .i64 n.pos]):=
   (gh.mono fun b hb D=>⟨hb.1,hb.2.1,hb.2.2,D⟩).app (ag.one (hV.mono fun b hb D=>⟨hb.imp id fun hb=>kC hB hb,fun e=>by
    have h1:=hu b e.symm;have h2:=N b e.symm;rcases hb with hb|hb
    ·have:=gb b hb;omega
    ·omega,fun hz=>by
    rcases hb with hb|hb
    ·have:=gb b hb;omega
    ·omega,D⟩))
  have h2:=h1.keep (w':=w2) fun b hb D=>I b D hb.2.1;refine h2.mono fun b hb _=>⟨hb.1,fun e=>?_,hb.2.2.1⟩;(have e3:b=g:=by simpa[Value.ownBlock]using e);subst e3;rcases ga with e|e
  ·exact hb.2.1 e.symm
  ·rw[jL]at e;have:=hb.2.2.2;omega
 refine h g c w2 ⟨⟨_,by rw[gL];exact hown1,J⟩,fun g' hg'=>?_⟩ ⟨M.os,M.tape,M.output,gi,fun b hb=>?_⟩ ?_
 ·(have e3:g=g':=by simpa[Value.ownBlock]using hg');rw[<-e3];exact U
 ·exact I b (by omega) fun e=>by have:=N b e.symm;omega
 ·exact I L (by omega) fun e=>hO.far L e.symm rfl
theorem AA{ops:Array Oper}{rest:List Oper}{o:Oper}{a:Act}{Q:Exit->Act->World->Prop}(D:o.guard=none)(s x:Operand)
  (U:o.op=.call { callee:=.builtin .append,args:=#[s,x],argTypes:=#[22,22] })
  (B S L:Nat)(X:Nat->Prop)(w1:World)(u:Value)(l:List Nd)(n:Nd)(A:Option Addr)(cap:Nat)(hs:a.eval s=u)(T:Nat)(N:a.eval x=.slice (some ⟨T,0,none⟩) 1 1)(hT:w1.heap.size=T)
  (hO:oD B X L w1 u l)(I:∀b,X b->b<B)(hB:B<=S)(hS:S<=w1.heap.size)(M:B<=L)(J:L<S)(O:∀g,u.ownBlock=some g->g<S)(hl:l.length<=1000000)
  (hV:bo (fun b=>X b\/S<=b) w1 n [.int .i64 n.kind,.string n.text,.slice A n.kids.length cap,.int .i64 n.pos])
  (h:∀g c w2,oD B X L w2 (.slice (some ⟨g,0,none⟩) (l.length+1) c) (l++[n])->Below B w1 w2->w2.heap[L]? = w1.heap[L]? ->wpList prog ops Q rest (a.put o.dst (.slice (some ⟨g,0,none⟩) (l.length+1) c)) w2):
  wpList prog ops Q (o::rest) a (w1.alloc (.cells (nv n A cap) 24)):=
 vy D fun _ hK=>Ls s x U B S L X w1 u l n A cap hs T N hT hO I hB hS M J O hl hV fun g c w2 h1 h2 h3=>hK _ _ (h g c w2 h1 h2 h3)
end
section
open Go.RowKit Go.Lib Go.Proofs
attribute [local go_sem ↓] Go.wp_at_zero Go.wp_at_succ
attribute [local go_sem] bv bw bz bA
mutual
def Ix:Nd->Prop
 | .mk k _ l _=>(k=22->∃x r,l=x::r/\r≠[]/\x.kind≠10)/\l.length<=1000000/\nW l
def nW:List Nd->Prop
 |[]=>True
 |x::r=>Ix x/\nW r
end
theorem nW.mem{l:List Nd}(h:nW l):∀i(D:i<l.length),Ix l[i]:=by
 induction l with
 |nil=>intro i D;simp at D
 |cons x r ih=>
  unfold nW at h;intro i D;cases i with
  |zero=>exact h.1
  |succ i=>exact ih h.2 i (by simpa using D)
theorem Ix.kids{n:Nd}(h:Ix n):(n.kind=22->∃x r,n.kids=x::r/\r≠[]/\x.kind≠10)/\n.kids.length<=1000000/\nW n.kids:=by cases n;unfold Ix at h;exact h
theorem Cf{n:Nd}(D:n.kind=10\/n.kind=11\/n.kind=12):bK n=some n:=by cases n;unfold bK;exact gF D
theorem Cg{n:Nd}(D:¬ (n.kind=10\/n.kind=11\/n.kind=12))(h:n.kind=18):bK n=some (.mk 10 n.text [] n.pos):=by cases n;unfold bK;exact(d5 D).trans (gF h)
theorem Ch{n:Nd}(D:¬ (n.kind=10\/n.kind=11\/n.kind=12))(h:n.kind≠18)(I:n.kind≠22):bK n=none:=by cases n;unfold bK;exact(d5 D).trans ((d5 h).trans (d5 I))
theorem Gw{t:ByteArray}{x:Nd}{r:List Nd}{a:Int}:bK (.mk 22 t (x::r) a)=match bK x with
  |some m=>if m.kind=10/\m.kids.length=0 then(cx r).map fun r'=>.mk m.kind m.text r' m.pos else none
  |none=>none:=by
 rw[bK];rw[d5 (by decide),d5 (by decide),gF rfl];cases bK x with
 |none=>rfl
 |some m=>cases m;rfl
theorem rk{fn:Func}{q r:Tmp}(J:fn.results = #[.cell q 24,.tmp r])(tmps:Array Value){w:World}{g:Nat}{a b c d v:Value}(N:tmps.getD q undef=.pointer (some ⟨g,0,none⟩))(M:tmps.getD r undef=v)(hb:an w g 24 #[a,b,c,d]):
  (results fn tmps).run prog w=.ok (.tuple #[.agg #[a,b,c,d],v]) w:=by obtain⟨d0,h,U,O,_,_,_,_⟩:=ab hb;unfold results;rw[J];(have I:tmps[q]?.getD undef=.pointer (some ⟨g,0,none⟩):=by simpa using N);(have D:tmps[r]?.getD undef=v:=by simpa using M);simp[I,D,go_sem,d0,h,U,O]
def uG(X:Nat->Prop)(w:World)(r:Option Nd)(k10:Prop)(e:Ending)(w':World):Prop:=
 Below w w w'/\match r with
 |some m=>∃A c,e=.returned (.tuple #[.agg (nv m A c),.bool true]) /\
  af (fun b=>X b\/w.heap.size<=b) w' (.agg (nv m A c)) m/\(k10->m.kind=10->m.kids=[]->A=none/\c=0)
 |none=>e=.returned (.tuple #[.agg bP,.bool false])
theorem uH{B:Nat}{w wk:World}{g:Nat}(h:Below B w wk)(D:B<=g)(a b c d:Value):Below B w (dO wk g a b c d):=
 (((h.setCell (p:=⟨g,0,none⟩) D a).setCell (p:=⟨g,1,none⟩) D b).setCell (p:=⟨g,2,none⟩) D c).setCell (p:=⟨g,3,none⟩) D d
theorem oW{X:Nat->Prop}{w wk:World}{m:Nd}{r:Option Nd}{k10:Prop}{A:Option Addr}{c:Nat}{z0 N M J:Value}{g q rr:Nat}{fn:Func}{a:Act}(h:r=some m)
  (O:af (fun b=>(X b\/w.heap.size<=b)/\b≠g) wk (.agg (nv m A c)) m)(hb:Below w w wk)(hB:an wk g 24 #[z0,N,M,J])(hg:w.heap.size<=g)
  (hk:k10->m.kind=10->m.kids=[]->A=none/\c=0)(I:fn.results = #[.cell q 24,.tmp rr])(U:a.tmps.getD q undef=.pointer (some ⟨g,0,none⟩))(D:a.tmps.getD rr undef=.bool true)(hd:a.defers=[]):
  bodyPost prog fn (uG X w r k10) .ret a (dO wk g (.int .i64 m.kind) (.string m.text) (.slice A m.kids.length c) (.int .i64 m.pos)):=by refine jV (rk I _ U D (dJ hB _ _ _ _)) hd ?_;unfold uG;rw[h];exact⟨uH hb hg _ _ _ _,A,c,rfl,(O.kept (dF (fun b hb=>hb.2) _ _ _ _)).mono fun b hb _=>hb.1,hk⟩
theorem oX{X:Nat->Prop}{w wk:World}{r:Option Nd}{k10:Prop}{z0 z1 z2 z3:Value}{g q rr:Nat}{fn:Func}{a:Act}(M:r=none)
  (hb:Below w w wk)(hB:an wk g 24 #[z0,z1,z2,z3])(N:w.heap.size<=g)
  (I:fn.results = #[.cell q 24,.tmp rr])(J:a.tmps.getD q undef=.pointer (some ⟨g,0,none⟩))(D:a.tmps.getD rr undef=.bool false)(hd:a.defers=[]):
  bodyPost prog fn (uG X w r k10) .ret a (dO wk g (.int .i64 0) (.string ⟨#[]⟩) (.slice none 0 0) (.int .i64 0)):=by refine jV (rk I _ J D (dJ hB _ _ _ _)) hd ?_;unfold uG;rw[M];exact⟨uH hb N _ _ _ _,rfl⟩
theorem DY(N:Nat):∀(n:Nd),SizeOf.sizeOf n<=N->Ix n->∀(X:Nat->Prop)(w:World)(v:Value),af X w v n ->
  Calls prog 189 #[v] w (uG X w (bK n) (n.kind≠10)):=by
 induction N with
 |zero=>intro n h;exact absurd h (by cases n;simp)
 | succ N ih=>
  intro n hN hI X w v hv;obtain⟨A,cp,rfl,hC⟩:=hv.toC;generalize hres:bK n=res at *;have gv:=(an.new w 24 (nv n A cp)).alloc (.cells bP 24);have ga:an ((w.alloc (.cells (nv n A cp) 24)).alloc (.cells bP 24)) (w.heap.size+1) 24 bP:=an.new_at (by simp) _ _;have O:Below w w ((w.alloc (.cells (nv n A cp) 24)).alloc (.cells bP 24)):=bel;(have kl:((w.alloc (.cells (nv n A cp) 24)).alloc (.cells bP 24)).heap.size=w.heap.size+2:=by simp);have gu:=(hv.mono (Y:=fun b=>X b/\b<w.heap.size) fun b hb J=>⟨hb,J⟩).below (O.mono (gA _));clear hC hv;(go_enter func189,ntmps189);(go_upto_region 1 with fail);change Code.wp _ _ _ _ ((w.alloc (.cells (nv n A cp) 24)).alloc (.cells bP 24));generalize(w.alloc (.cells (nv n A cp) 24)).alloc (.cells bP 24)=w0 at *;obtain⟨x0,x1,x2,x3,-,-,-,-⟩:=ab gv;obtain⟨d0,d1,d2,d3,e0,e1,e2,e3⟩:=ab ga;by_cases hk:n.kind=10\/n.kind=11\/n.kind=12
  case pos=>
   have HF:Hid (res=some n):=hid (by rw[<-hres];exact Cf hk);have HK:Hid (n.kind≠10->n.kind=10->n.kids=[]->A=none/\cp=0):=hid (fun h1 h2=>absurd h2 h1);have hp:=gu.mono (Y:=fun b=>(X b\/w.heap.size<=b)/\b≠w.heap.size+1) fun b hb _=>⟨.inl hb.1,by have:=hb.2;omega⟩;clear hres;by_cases gs:n.kind=10
   ·have h4:(n.kind==10)=true:=beq_iff_eq.2 gs;clear hk gs;go_wp2_with fail;exact oW HF.out hp O ga (jZ _) HK.out rfl (by rfl) (by rfl) rfl
   ·have h4:(n.kind==10)=false:=beq_eq_false_iff_ne.2 gs;by_cases gy:n.kind=11
    ·have hz:(n.kind==11)=true:=beq_iff_eq.2 gy;clear hk gs gy;go_wp2_with fail;exact oW HF.out hp O ga (jZ _) HK.out rfl (by rfl) (by rfl) rfl
    ·have hz:(n.kind==11)=false:=beq_eq_false_iff_ne.2 gy;have js:(n.kind==12)=true:=beq_iff_eq.2 (by omega);clear hk gs gy;go_wp2_with fail;exact oW HF.out hp O ga (jZ _) HK.out rfl (by rfl) (by rfl) rfl
  have h4:(n.kind==10)=false:=beq_eq_false_iff_ne.2 (by omega);have hz:(n.kind==11)=false:=beq_eq_false_iff_ne.2 (by omega);have js:(n.kind==12)=false:=beq_eq_false_iff_ne.2 (by omega);by_cases ge:n.kind=18
  ·have HF:=hid (show res=some (.mk 10 n.text [] n.pos)by rw[<-hres];exact Cg hk ge);have jr:(n.kind==18)=true:=beq_iff_eq.2 ge;clear hres hk ge;go_wp2_with fail;refine(aQ _ _ _ _ _ ⟨_,_,_,rfl⟩).mono ?_;rintro e w1⟨rfl,I⟩;have gd:=ga.below I (by omega);have gp:=O.trans (I.mono (by omega));clear x0 x1 x2 x3 d0 d1 d2 d3 e0 e1 e2 e3;obtain⟨d0,d1,d2,d3,e0,e1,e2,e3⟩:=ab gd;go_wp2_with fail;exact oW (m:=.mk 10 n.text [] n.pos) HF.out (af.leaf 10 n.text n.pos) gp gd (jZ _) (fun _ _ _=>⟨rfl,rfl⟩) rfl (by rfl) (by rfl) rfl
  have jr:(n.kind==18)=false:=beq_eq_false_iff_ne.2 ge;by_cases gq:n.kind=22
  case neg=>have HF:Hid (res=none):=hid (by rw[<-hres];exact Ch hk ge gq);have jq:(n.kind==22)=false:=beq_eq_false_iff_ne.2 gq;clear hres hk ge gq;go_wp2_with fail;exact oX HF.out O ga (jZ _) rfl (by rfl) (by rfl) rfl
  have jq:(n.kind==22)=true:=beq_iff_eq.2 gq;obtain⟨x,r,jt,j4,h5⟩:=hI.kids.1 gq;have kp:=hI.kids.2.1;have gw:=hI.kids.2.2;obtain⟨nk,nt,nl,np⟩:=n;simp only[Nd.kind_mk,Nd.text_mk,Nd.kids_mk,Nd.pos_mk]at *;subst jt;clear hI hk ge;rw[gq]at hres;rw[Gw]at hres;have gi:=hid hres;clear hres;(have jb:SizeOf.sizeOf x<=N:=by simp at hN;omega);(have jc:∀y∈r,SizeOf.sizeOf y<=N:=fun y hy=>by have:=List.sizeOf_lt_of_mem hy;simp at hN;omega);have kw:=hid gw;have kb:Ix x:=gw.1;have kc:∀i(hi:i<r.length),Ix r[i]:=nW.mem gw.2;have ho:cS (fun b=>X b/\b<w.heap.size) w0 (.slice A (x::r).length cp) (x::r):=af.kidsV gu;(have kr:r.length+1<=cp:=by obtain⟨A9,c9,kj,e9,h9,-⟩:=ho;injection e9 with _ _ e9;rw[e9];exact h9);have ko:0<r.length:=List.length_pos_iff.2 j4;(have ks:¬ cp=1:=by omega);obtain⟨b,off,A1,c1,rfl,j8,-,hm,hl,hh,hf,hn⟩:=ho.kid 0 (by simp);have ha:∀i(hi:i<r.length)W,Below w.heap.size w0 W->∃A1 c1,W.cell? ⟨b,off+4+i*4,none⟩=some (.int .i64 r[i].kind)/\W.cell? ⟨b,off+4+i*4+1,none⟩=some (.string r[i].text) /\
    W.cell? ⟨b,off+4+i*4+2,none⟩=some (.slice A1 r[i].kids.length c1)/\W.cell? ⟨b,off+4+i*4+3,none⟩=some (.int .i64 r[i].pos) /\
    af (fun b=>X b/\b<w.heap.size) W (.agg #[.int .i64 r[i].kind,.string r[i].text,.slice A1 r[i].kids.length c1,.int .i64 r[i].pos]) r[i]:=by intro i hi W hW;have hV:=gu.keep (w':=W) fun b hb _=>hW.block b hb.2;have j6:cS (fun b=>X b/\b<w.heap.size) W (.slice (some ⟨b,off,none⟩) (x::r).length cp) (x::r):=af.kidsV hV;obtain⟨b',off',A2,c2,eA,-,-,j0,j1,j2,j3,jv⟩:=j6.kid (i+1) (by simp;omega);injection eA with eA;injection eA with eA1 eA2;subst eA1 eA2;(have ea:off+(i+1)*4=off+4+i*4:=by omega);rw[ea]at j0 j1 j2 j3;exact⟨A2,c2,j0,j1,j2,j3,jv⟩
  simp only[jK,jD,gT]at hm hl hh hf hn;have HK:=hid ha;have kh:b<w.heap.size:=j8.2;clear ha ho gu gw;have hq:(x::r).length=r.length+1:=rfl;generalize(x::r).length=q at *;(have kq:(0:Int)<(q:Int):=by omega);go_wp2_with fail;refine(ih x jb kb _ _ _ hn).mono ?_;cases hA:bK x with
  |none=>have HF:Hid (res=none):=hid (by rw[<-gi.out,hA]);rintro e w1⟨I,rfl⟩;unfold bP;have je:=I.size;have gd:=ga.below I (by omega);have gp:=O.trans (I.mono (by omega));have gb:=gd.alloc (.cells bP 24);have gn:=gp.alloc (by omega) (.cells bP 24);unfold bP at gb gn;clear x0 x1 x2 x3 d0 d1 d2 d3 e0 e1 e2 e3 hm hl hh hf ga gd gv gi;obtain⟨d0,d1,d2,d3,e0,e1,e2,e3⟩:=ab gb;go_wp2_with fail;exact oX HF.out gn gb (jZ _) rfl (by rfl) (by rfl) rfl
  | some m=>
   have gz:=hid (show(if m.kind=10/\m.kids.length=0 then(cx r).map fun r'=>.mk m.kind m.text r' m.pos else none)=res by rw[<-gi.out,hA]);rintro e w1⟨I,A3,c3,rfl,ju,gh⟩;have gd:=ga.below I (by omega);have jj:=gv.below I (by omega);have gp:=O.trans (I.mono (by omega));have he:Below (w.heap.size+2) w0 w1:=I.mono (by omega);have je:=I.size;have gb:=gd.alloc (.cells (nv m A3 c3) 24);have ji:=jj.alloc (.cells (nv m A3 c3) 24);have gl:=an.new w1 24 (nv m A3 c3);have gn:=gp.alloc (by omega) (.cells (nv m A3 c3) 24);have hc:=he.alloc (by omega) (.cells (nv m A3 c3) 24);(have jz:(w1.alloc (.cells (nv m A3 c3) 24)).heap.size=w1.heap.size+1:=by simp);clear x0 x1 x2 x3 d0 d1 d2 d3 e0 e1 e2 e3 hm hl hh hf ga gd gv jj gi gp he I hn ju;(go_upto_region 10 with fail);change Code.wp _ _ _ _ (w1.alloc (.cells (nv m A3 c3) 24));generalize hLL:w1.heap.size=L at *;generalize w1.alloc (.cells (nv m A3 c3) 24)=w2 at *;clear hLL;obtain⟨x0,x1,x2,x3,-,-,-,-⟩:=ab ji;obtain⟨d0,d1,d2,d3,e0,e1,e2,e3⟩:=ab gb;obtain⟨y0,y1,y2,y3,f0,f1,f2,f3⟩:=ab gl;by_cases D:m.kind=10
   case neg=>have HF:Hid (res=none):=hid (by rw[<-gz.out,d5 (fun h=>D h.1)]);have g1:(m.kind != 10)=true:=bne_iff_ne.2 D;have g2:(m.kind==10)=false:=beq_eq_false_iff_ne.2 D;clear D gh;go_wp2_with fail;exact oX HF.out gn gb (jZ _) rfl (by rfl) (by rfl) rfl
   (have g1:(m.kind != 10)=false:=by rw[D];rfl);(have g2:(m.kind==10)=true:=by rw[D];rfl);by_cases gr:m.kids.length=0
   case neg=>have HF:Hid (res=none):=hid (by rw[<-gz.out,d5 (fun h=>gr h.2)]);(have g3:decide ((m.kids.length:Int)>0)=true:=by rw[gK];omega);(have g4:(0:Int)<(m.kids.length:Int):=by omega);clear D gh;go_wp2_with fail;exact oX HF.out gn gb (jZ _) rfl (by rfl) (by rfl) rfl
   obtain⟨rfl,rfl⟩:=gh h5 D (jQ gr);have HF:=hid (show(cx r).map (fun r'=>.mk m.kind m.text r' m.pos)=res by rw[<-gz.out,gF ⟨D,gr⟩]);unfold nv at gl;rw[gr]at gl y2;clear D gr gz gh;have jk:oD (w.heap.size+2) (fun b=>X b/\b<w.heap.size) L w2 (.slice none 0 0) []:=oD.nil _ _ _ _;(have jd:w.heap.size+2<=L:=by omega);(have km:r.length<=1000000:=by omega);generalize hmk:m.kind=mk at *;generalize hmt:m.text=mt at *;generalize hmp:m.pos=mp at *;go_wp2_with fail;clear x0 x1 x2 x3 d0 d1 d2 d3 e0 e1 e2 e3 y0 y1 y3 f0 f1 f2 f3 y2 gn jz je ji;go_loopg [52] r.length (fun gg jp wr=>∃(j:Nat)(acc:List Nd)(A4:Option Addr)(c4:Nat),jp=.int .i64 (j:Int)/\j+gg=r.length/\acc.length<=j/\oD (w.heap.size+2) (fun b=>X b/\b<w.heap.size) L wr (.slice A4 acc.length c4) acc /\
    an wr L 24 #[.int .i64 mk,.string mt,.slice A4 acc.length c4,.int .i64 mp]/\an wr (w.heap.size+1) 24 bP/\Below (w.heap.size+2) w0 wr/\L<wr.heap.size/\(acc=[]->A4=none/\c4=0)/\cx r=(cx (r.drop j)).map fun z=>acc++z)
   case atStart=>exact⟨0,[],none,0,rfl,by omega,by simp,jk,gl,gb,hc,gl.lt,fun _=>⟨rfl,rfl⟩,by simp⟩
   case round=>
    clear jk gl gb hc;obtain⟨j,acc,A4,c4,rfl,hj,kg,hO,hL,hG,hB,ku,j5,gj⟩:=hrel;have jn:=O.trans (hB.mono (by omega));obtain⟨d0,d1,d2,d3,e0,e1,e2,e3⟩:=ab hG;obtain⟨y0,y1,y2,y3,f0,f1,f2,f3⟩:=ab hL;by_cases gt:j<r.length
    case neg=>
     (have ej:j=r.length:=by omega);(have g5:¬ (j:Int)<(r.length:Int):=by omega);have g6:decide ((j:Int)<(r.length:Int))=false:=gM g5;have HE:=hid (show res=some (.mk mk mt acc mp)by rw[<-HF.out,gj,jS (by omega)];show some (Nd.mk mk mt (acc++[]) mp)=_;rw[List.append_nil]);have hV:=(af.of_slice hO.values mk mt mp).mono (Y:=fun b=>(X b\/w.heap.size<=b)/\b≠w.heap.size+1) fun b hb _=>by
      rcases hb with⟨h1,h2⟩|hb
      ·exact⟨.inl h1,by omega⟩
      ·exact⟨.inr (by omega),by omega⟩
     clear gj HF;go_wp2_with fail;exact oW (m:=.mk mk mt acc mp) HE.out hV jn hG (jZ _) (fun _ _ h=>j5 h) rfl (by rfl) (by rfl) rfl
    case pos=>
     (have g5:(j:Int)<(r.length:Int):=by omega);have g6:decide ((j:Int)<(r.length:Int))=true:=jO g5;(have g7:(0:Int)<=(j:Int):=by omega);have g8:IntKind.i64.wrap ((j:Int)+1)=(j:Int)+1:=gQ _ (by omega);obtain⟨A5,c5,k0,k1,k2,k3,h8⟩:=HK.out j gt wr (hB.mono (by omega));have jf:r.drop j=r[j]::r.drop (j+1):=jX gt;have ja:=jc r[j] (gX gt);have ka:=kc j gt;generalize r[j]=y at *;have hr:=hO.keep (w':=wr.alloc (.cells (nv y A5 c5) 24)) fun b _ _ J=>jF wr _ b J;have jl:=hL.alloc (.cells (nv y A5 c5) 24);have hu:=hG.alloc (.cells (nv y A5 c5) 24);have kv:=hB.size;have hw:=hB.alloc (show w.heap.size+2<=wr.heap.size by omega) (.cells (nv y A5 c5) 24);have jg:=an.new wr 24 (nv y A5 c5);have h7:=h8.keep (w':=wr.alloc (.cells (nv y A5 c5) 24)) fun b _ J=>jF wr _ b J;(have kk:(wr.alloc (.cells (nv y A5 c5) 24)).heap.size=wr.heap.size+1:=by simp);(go_upto_region 15 with fail);change Code.wp _ _ _ _ (wr.alloc (.cells (nv y A5 c5) 24));generalize hTT:wr.heap.size=T at *;generalize wr.alloc (.cells (nv y A5 c5) 24)=w6 at *;clear d0 d1 d2 d3 e0 e1 e2 e3 y0 y1 y2 y3 f0 f1 f2 f3 k0 k1 k2 k3 hO hL hG hB jn h8;obtain⟨t0,t1,t2,t3,-,-,-,-⟩:=ab jg;go_wp2_with fail;refine(ih y ja ka _ _ _ h7).mono ?_;cases jo:bK y with
     |none=>have HE:Hid (res=none):=hid (by rw[<-HF.out,gj,jf,cx,jo];rfl);rintro e w7⟨M,rfl⟩;unfold bP;have jy:=M.size;have gm:=(hu.bl M).alloc (.cells bP 24);have gx:=((O.trans (hw.mono (by omega))).trans (M.mono (by omega))).alloc (by omega) (.cells bP 24);unfold bP at gm gx;obtain⟨d0,d1,d2,d3,e0,e1,e2,e3⟩:=ab gm;clear gj HF;go_wp2_with fail;exact oX HE.out gx gm (jZ _) rfl (by rfl) (by rfl) rfl
     | some n2=>
      have jh:cx r=(cx (r.drop (j+1))).map fun z=>(acc++[n2])++z:=by
       rw[gj,jf,cx,jo];cases cx (r.drop (j+1))with
       |none=>rfl
       |some z=>simp
      rintro e w7⟨M,A7,c7,rfl,h6,-⟩;have jy:=M.size;have jm:=af.cells h6;have jw:=fun g hg=>(hr.lt g hg).2;have j9:=(hr.keep (w':=w7) fun b _ _ J=>M.block b J).keep (w':=w7.alloc (.cells (nv n2 A7 c7) 24)) fun b _ _ J=>jF w7 _ b J;have ht:=(jl.bl M).alloc (.cells (nv n2 A7 c7) 24);have gm:=(hu.bl M).alloc (.cells (nv n2 A7 c7) 24);have gx:=(hw.trans (M.mono (by omega))).alloc (show w.heap.size+2<=w7.heap.size by omega) (.cells (nv n2 A7 c7) 24);have j7:=an.new w7 24 (nv n2 A7 c7);have kd:=jm.keep (w':=w7.alloc (.cells (nv n2 A7 c7) 24)) fun b _ J=>jF w7 _ b J;(have jx:(w7.alloc (.cells (nv n2 A7 c7) 24)).heap.size=w7.heap.size+1:=by simp);clear gj HF hr jl hu hw jg h7 h6 jm M t0 t1 t2 t3;(go_upto_region 16 with fail);change Code.wp _ _ _ _ (w7.alloc (.cells (nv n2 A7 c7) 24));generalize hUU:w7.heap.size=U at *;generalize w7.alloc (.cells (nv n2 A7 c7) 24)=w8 at *;obtain⟨t0,t1,t2,t3,-,-,-,-⟩:=ab j7;obtain⟨y0,y1,y2,y3,f0,f1,f2,f3⟩:=ab ht;have ke:=ht.lt;have kf:=gm.lt;(have ki:L≠w8.heap.size:=by omega);go_wp2_with (at_builtin;refine AA rfl (.tmp 65) (.tmp 67) rfl (w.heap.size+2) w6.heap.size L (fun b=>X b/\b<w.heap.size) w8 (.slice A4 acc.length c4) acc n2 A7 c7 rfl _ rfl (by first|exact jx|rfl) j9 (fun b hb=>by have:=hb.2;omega) (by omega) (by omega) jd (by omega) jw (by omega) kd ?_;intro g9 c9 w9 hO9 hB9 hL9;have g0:an w9 L 24 #[.int .i64 mk,.string mt,.slice A4 acc.length c4,.int .i64 mp]:=Eq.trans hL9 ht;obtain⟨z0,z1,z2,z3,h0,h1,h2,h3⟩:=ab g0);go_roundg (gk-1)
      case measure=>omega
      case rel=>
       have kt:=hB9.size;refine⟨j+1,acc++[n2],some ⟨g9,0,none⟩,c9,rfl,by omega,by simp;omega,?_,?_,?_,?_,?_,fun h=>by simp at h,jh⟩
       ·rw[gL];exact hO9.keep fun b _ hne _=>jN w9 ⟨L,2,none⟩ _ b hne
       ·rw[gL];simpa using g0.set_ 2 (.slice (some ⟨g9,0,none⟩) (acc.length+1) c9)
       ·exact(gm.below hB9 (by omega)).far (p:=⟨L,2,none⟩) (by show w.heap.size+1≠L;omega) _
       ·exact(gx.trans hB9).setCell (p:=⟨L,2,none⟩) jd _
       ·simp;omega
end
end Go.Proofs.YtiebcdeafofgdaaGreatDoor
