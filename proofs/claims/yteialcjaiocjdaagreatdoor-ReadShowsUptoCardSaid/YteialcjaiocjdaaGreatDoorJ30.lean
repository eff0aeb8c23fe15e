/-
  Parts of the proof: Ras Rop. By an AI agent.
-/
import Derived.Test.YteialcjaiocjdaaGreatDoorJ29
open Go.Proofs.Tryz
set_option maxRecDepth 100000
set_option maxHeartbeats 8000000
namespace Go.Proofs.YteialcjaiocjdaaGreatDoor
section
open Go.RowKit Go.Lib Go.Proofs
attribute [local go_sem ↓] Go.wp_at_zero Go.wp_at_succ
attribute [local go_sem] bu bv bw bz
mutual
def Ix:Nd->Prop
 | .mk k _ l _=>(k=22->∃x r,l=x::r/\r≠[]/\x.kind≠10)/\l.length<=1000000/\ou l
def ou:List Nd->Prop
 |[]=>True
 |x::r=>Ix x/\ou r
end
theorem ou.mem{l:List Nd}(h:ou l):∀i(D:i<l.length),Ix l[i]:=by
 induction l with
 |nil=>intro i D;simp at D
 |cons x r ih=>
  unfold ou at h;intro i D;cases i with
  |zero=>exact h.1
  |succ i=>exact ih h.2 i (by simpa using D)
theorem Ix.kids{n:Nd}(h:Ix n):(n.kind=22->∃x r,n.kids=x::r/\r≠[]/\x.kind≠10)/\n.kids.length<=1000000/\ou n.kids:=by cases n;unfold Ix at h;exact h
theorem CL{n:Nd}(D:n.kind=10\/n.kind=11\/n.kind=12):bP n=some n:=by cases n;unfold bP;exact gG D
theorem CM{n:Nd}(D:¬ (n.kind=10\/n.kind=11\/n.kind=12))(h:n.kind=18):bP n=some (.mk 10 n.text [] n.pos):=by cases n;unfold bP;exact(gB D).trans (gG h)
theorem CN{n:Nd}(D:¬ (n.kind=10\/n.kind=11\/n.kind=12))(h:n.kind≠18)(I:n.kind≠22):bP n=none:=by cases n;unfold bP;exact(gB D).trans ((gB h).trans (gB I))
theorem G3{t:ByteArray}{x:Nd}{r:List Nd}{a:Int}:bP (.mk 22 t (x::r) a)=match bP x with
  |some m=>if m.kind=10/\m.kids.length=0 then(cC r).map fun r'=>.mk m.kind m.text r' m.pos else none
  |none=>none:=by
 rw[bP];rw[gB (by decide),gB (by decide),gG rfl];cases bP x with
 |none=>rfl
 |some m=>cases m;rfl
theorem rD{fn:Func}{q r:Tmp}(J:fn.results = #[.cell q 24,.tmp r])(tmps:Array Value){w:World}{g:Nat}{a b c d v:Value}(N:tmps.getD q undef=.pointer (some ⟨g,0,none⟩))(M:tmps.getD r undef=v)(hb:aq w g 24 #[a,b,c,d]):
  (results fn tmps).run prog w=.ok (.tuple #[.agg #[a,b,c,d],v]) w:=by obtain⟨d0,h,U,O,_,_,_,_⟩:=ab hb;unfold results;rw[J];(have I:tmps[q]?.getD undef=.pointer (some ⟨g,0,none⟩):=by simpa using N);(have D:tmps[r]?.getD undef=v:=by simpa using M);simp[I,D,go_sem,d0,h,U,O]
def uZ(X:Nat->Prop)(w:World)(r:Option Nd)(k10:Prop)(e:Ending)(w':World):Prop:=
 Below w w w'/\match r with
 |some m=>∃A c,e=.returned (.tuple #[.agg (nv m A c),.bool true]) /\
  af (fun b=>X b\/w.heap.size<=b) w' (.agg (nv m A c)) m/\(k10->m.kind=10->m.kids=[]->A=none/\c=0)
 |none=>e=.returned (.tuple #[.agg bJ,.bool false])
theorem Qz0{B:Nat}{w wk:World}{g:Nat}(h:Below B w wk)(D:B<=g)(a b c d:Value):Below B w (dT wk g a b c d):=
 (((h.setCell (p:=⟨g,0,none⟩) D a).setCell (p:=⟨g,1,none⟩) D b).setCell (p:=⟨g,2,none⟩) D c).setCell (p:=⟨g,3,none⟩) D d
theorem pg{X:Nat->Prop}{w wk:World}{m:Nd}{r:Option Nd}{k10:Prop}{A:Option Addr}{c:Nat}{z0 N M J:Value}{g q rr:Nat}{fn:Func}{a:Act}(h:r=some m)
  (O:af (fun b=>(X b\/w.heap.size<=b)/\b≠g) wk (.agg (nv m A c)) m)(hb:Below w w wk)(hB:aq wk g 24 #[z0,N,M,J])(hg:w.heap.size<=g)
  (hk:k10->m.kind=10->m.kids=[]->A=none/\c=0)(I:fn.results = #[.cell q 24,.tmp rr])(U:a.tmps.getD q undef=.pointer (some ⟨g,0,none⟩))(D:a.tmps.getD rr undef=.bool true)(hd:a.defers=[]):
  bodyPost prog fn (uZ X w r k10) .ret a (dT wk g (.int .i64 m.kind) (.string m.text) (.slice A m.kids.length c) (.int .i64 m.pos)):=by refine jY (rD I _ U D (dy hB _ _ _ _)) hd ?_;unfold uZ;rw[h];exact⟨Qz0 hb hg _ _ _ _,A,c,rfl,(O.kept (dn (fun b hb=>hb.2) _ _ _ _)).mono fun b hb _=>hb.1,hk⟩
theorem ph{X:Nat->Prop}{w wk:World}{r:Option Nd}{k10:Prop}{z0 z1 z2 z3:Value}{g q rr:Nat}{fn:Func}{a:Act}(M:r=none)
  (hb:Below w w wk)(hB:aq wk g 24 #[z0,z1,z2,z3])(N:w.heap.size<=g)
  (I:fn.results = #[.cell q 24,.tmp rr])(J:a.tmps.getD q undef=.pointer (some ⟨g,0,none⟩))(D:a.tmps.getD rr undef=.bool false)(hd:a.defers=[]):
  bodyPost prog fn (uZ X w r k10) .ret a (dT wk g (.int .i64 0) (.string ⟨#[]⟩) (.slice none 0 0) (.int .i64 0)):=by refine jY (rD I _ J D (dy hB _ _ _ _)) hd ?_;unfold uZ;rw[M];exact⟨Qz0 hb N _ _ _ _,rfl⟩
theorem Eo(N:Nat):∀(n:Nd),SizeOf.sizeOf n<=N->Ix n->∀(X:Nat->Prop)(w:World)(v:Value),af X w v n ->
  Calls prog 177 #[v] w (uZ X w (bP n) (n.kind≠10)):=by
 induction N with
 |zero=>intro n h;exact absurd h (by cases n;simp)
 | succ N ih=>
  intro n hN hI X w v hv;obtain⟨A,cp,rfl,hC⟩:=hv.toC;generalize hres:bP n=res at *;have gv:=(aq.new w 24 (nv n A cp)).alloc (.cells bJ 24);have ga:aq ((w.alloc (.cells (nv n A cp) 24)).alloc (.cells bJ 24)) (w.heap.size+1) 24 bJ:=aq.new_at (by simp) _ _;have O:Below w w ((w.alloc (.cells (nv n A cp) 24)).alloc (.cells bJ 24)):=bel;(have kl:((w.alloc (.cells (nv n A cp) 24)).alloc (.cells bJ 24)).heap.size=w.heap.size+2:=by simp);have gu:=(hv.mono (Y:=fun b=>X b/\b<w.heap.size) fun b hb J=>⟨hb,J⟩).below (O.mono (gC _));clear hC hv;(go_enter func177,ntmps177);(go_upto_region 1 with fail);change Code.wp _ _ _ _ ((w.alloc (.cells (nv n A cp) 24)).alloc (.cells bJ 24));generalize(w.alloc (.cells (nv n A cp) 24)).alloc (.cells bJ 24)=w0 at *;obtain⟨x0,x1,x2,x3,-,-,-,-⟩:=ab gv;obtain⟨d0,d1,d2,d3,e0,e1,e2,e3⟩:=ab ga;by_cases hk:n.kind=10\/n.kind=11\/n.kind=12
  case pos=>
   have HF:Hid (res=some n):=hid (by rw[<-hres];exact CL hk);have HK:Hid (n.kind≠10->n.kind=10->n.kids=[]->A=none/\cp=0):=hid (fun h1 h2=>absurd h2 h1);have hp:=gu.mono (Y:=fun b=>(X b\/w.heap.size<=b)/\b≠w.heap.size+1) fun b hb _=>⟨.inl hb.1,by have:=hb.2;omega⟩;clear hres;by_cases gs:n.kind=10
   ·have h4:(n.kind==10)=true:=beq_iff_eq.2 gs;clear hk gs;go_wp2_with fail;exact pg HF.out hp O ga (jN _) HK.out rfl (by rfl) (by rfl) rfl
   ·have h4:(n.kind==10)=false:=beq_eq_false_iff_ne.2 gs;by_cases gy:n.kind=11
    ·have hz:(n.kind==11)=true:=beq_iff_eq.2 gy;clear hk gs gy;go_wp2_with fail;exact pg HF.out hp O ga (jN _) HK.out rfl (by rfl) (by rfl) rfl
    ·have hz:(n.kind==11)=false:=beq_eq_false_iff_ne.2 gy;have js:(n.kind==12)=true:=beq_iff_eq.2 (by omega);clear hk gs gy;go_wp2_with fail;exact pg HF.out hp O ga (jN _) HK.out rfl (by rfl) (by rfl) rfl
  have h4:(n.kind==10)=false:=beq_eq_false_iff_ne.2 (by omega);have hz:(n.kind==11)=false:=beq_eq_false_iff_ne.2 (by omega);have js:(n.kind==12)=false:=beq_eq_false_iff_ne.2 (by omega);by_cases ge:n.kind=18
  ·have HF:=hid (show res=some (.mk 10 n.text [] n.pos)by rw[<-hres];exact CM hk ge);have jr:(n.kind==18)=true:=beq_iff_eq.2 ge;clear hres hk ge;go_wp2_with fail;refine(aM _ _ _ _ _ ⟨_,_,_,rfl⟩).mono ?_;rintro e w1⟨rfl,I⟩;have gd:=ga.below I (by omega);have gp:=O.trans (I.mono (by omega));clear x0 x1 x2 x3 d0 d1 d2 d3 e0 e1 e2 e3;obtain⟨d0,d1,d2,d3,e0,e1,e2,e3⟩:=ab gd;go_wp2_with fail;exact pg (m:=.mk 10 n.text [] n.pos) HF.out (af.leaf 10 n.text n.pos) gp gd (jN _) (fun _ _ _=>⟨rfl,rfl⟩) rfl (by rfl) (by rfl) rfl
  have jr:(n.kind==18)=false:=beq_eq_false_iff_ne.2 ge;by_cases gq:n.kind=22
  case neg=>have HF:Hid (res=none):=hid (by rw[<-hres];exact CN hk ge gq);have jq:(n.kind==22)=false:=beq_eq_false_iff_ne.2 gq;clear hres hk ge gq;go_wp2_with fail;exact ph HF.out O ga (jN _) rfl (by rfl) (by rfl) rfl
  have jq:(n.kind==22)=true:=beq_iff_eq.2 gq;obtain⟨x,r,jt,j4,h5⟩:=hI.kids.1 gq;have kp:=hI.kids.2.1;have gw:=hI.kids.2.2;obtain⟨nk,nt,nl,np⟩:=n;simp only[Nd.kind_mk,Nd.text_mk,Nd.kids_mk,Nd.pos_mk]at *;subst jt;clear hI hk ge;rw[gq]at hres;rw[G3]at hres;have gi:=hid hres;clear hres;(have jb:SizeOf.sizeOf x<=N:=by simp at hN;omega);(have jc:∀y∈r,SizeOf.sizeOf y<=N:=fun y hy=>by have:=List.sizeOf_lt_of_mem hy;simp at hN;omega);have kw:=hid gw;have kb:Ix x:=gw.1;have kc:∀i(hi:i<r.length),Ix r[i]:=ou.mem gw.2;have ho:cV (fun b=>X b/\b<w.heap.size) w0 (.slice A (x::r).length cp) (x::r):=af.kidsV gu;(have kr:r.length+1<=cp:=by obtain⟨A9,c9,kj,e9,h9,-⟩:=ho;injection e9 with _ _ e9;rw[e9];exact h9);have ko:0<r.length:=List.length_pos_iff.2 j4;(have ks:¬ cp=1:=by omega);obtain⟨b,off,A1,c1,rfl,j8,-,hm,hl,hh,hf,hn⟩:=ho.kid 0 (by simp);have ha:∀i(hi:i<r.length)W,Below w.heap.size w0 W->∃A1 c1,W.cell? ⟨b,off+4+i*4,none⟩=some (.int .i64 r[i].kind)/\W.cell? ⟨b,off+4+i*4+1,none⟩=some (.string r[i].text) /\
    W.cell? ⟨b,off+4+i*4+2,none⟩=some (.slice A1 r[i].kids.length c1)/\W.cell? ⟨b,off+4+i*4+3,none⟩=some (.int .i64 r[i].pos) /\
    af (fun b=>X b/\b<w.heap.size) W (.agg #[.int .i64 r[i].kind,.string r[i].text,.slice A1 r[i].kids.length c1,.int .i64 r[i].pos]) r[i]:=by intro i hi W hW;have hV:=gu.keep (w':=W) fun b hb _=>hW.block b hb.2;have j6:cV (fun b=>X b/\b<w.heap.size) W (.slice (some ⟨b,off,none⟩) (x::r).length cp) (x::r):=af.kidsV hV;obtain⟨b',off',A2,c2,eA,-,-,j0,j1,j2,j3,jv⟩:=j6.kid (i+1) (by simp;omega);injection eA with eA;injection eA with eA1 eA2;subst eA1 eA2;(have ea:off+(i+1)*4=off+4+i*4:=by omega);rw[ea]at j0 j1 j2 j3;exact⟨A2,c2,j0,j1,j2,j3,jv⟩
  simp only[jF,gZ,gN]at hm hl hh hf hn;have HK:=hid ha;have kh:b<w.heap.size:=j8.2;clear ha ho gu gw;have hq:(x::r).length=r.length+1:=rfl;generalize(x::r).length=q at *;(have kq:(0:Int)<(q:Int):=by omega);go_wp2_with fail;refine(ih x jb kb _ _ _ hn).mono ?_;cases hA:bP x with
  |none=>have HF:Hid (res=none):=hid (by rw[<-gi.out,hA]);rintro e w1⟨I,rfl⟩;unfold bJ;have je:=I.size;have gd:=ga.below I (by omega);have gp:=O.trans (I.mono (by omega));have gb:=gd.alloc (.cells bJ 24);have gn:=gp.alloc (by omega) (.cells bJ 24);unfold bJ at gb gn;clear x0 x1 x2 x3 d0 d1 d2 d3 e0 e1 e2 e3 hm hl hh hf ga gd gv gi;obtain⟨d0,d1,d2,d3,e0,e1,e2,e3⟩:=ab gb;go_wp2_with fail;exact ph HF.out gn gb (jN _) rfl (by rfl) (by rfl) rfl
  | some m=>
   have gz:=hid (show(if m.kind=10/\m.kids.length=0 then(cC r).map fun r'=>.mk m.kind m.text r' m.pos else none)=res by rw[<-gi.out,hA]);rintro e w1⟨I,A3,c3,rfl,ju,gh⟩;have gd:=ga.below I (by omega);have jj:=gv.below I (by omega);have gp:=O.trans (I.mono (by omega));have he:Below (w.heap.size+2) w0 w1:=I.mono (by omega);have je:=I.size;have gb:=gd.alloc (.cells (nv m A3 c3) 24);have ji:=jj.alloc (.cells (nv m A3 c3) 24);have gl:=aq.new w1 24 (nv m A3 c3);have gn:=gp.alloc (by omega) (.cells (nv m A3 c3) 24);have hc:=he.alloc (by omega) (.cells (nv m A3 c3) 24);(have jz:(w1.alloc (.cells (nv m A3 c3) 24)).heap.size=w1.heap.size+1:=by simp);clear x0 x1 x2 x3 d0 d1 d2 d3 e0 e1 e2 e3 hm hl hh hf ga gd gv jj gi gp he I hn ju;(go_upto_region 10 with fail);change Code.wp _ _ _ _ (w1.alloc (.cells (nv m A3 c3) 24));generalize hLL:w1.heap.size=L at *;generalize w1.alloc (.cells (nv m A3 c3) 24)=w2 at *;clear hLL;obtain⟨x0,x1,x2,x3,-,-,-,-⟩:=ab ji;obtain⟨d0,d1,d2,d3,e0,e1,e2,e3⟩:=ab gb;obtain⟨y0,y1,y2,y3,f0,f1,f2,f3⟩:=ab gl;by_cases D:m.kind=10
   case neg=>have HF:Hid (res=none):=hid (by rw[<-gz.out,gB (fun h=>D h.1)]);have g1:(m.kind != 10)=true:=bne_iff_ne.2 D;have g2:(m.kind==10)=false:=beq_eq_false_iff_ne.2 D;clear D gh;go_wp2_with fail;exact ph HF.out gn gb (jN _) rfl (by rfl) (by rfl) rfl
   (have g1:(m.kind != 10)=false:=by rw[D];rfl);(have g2:(m.kind==10)=true:=by rw[D];rfl);by_cases gr:m.kids.length=0
   case neg=>have HF:Hid (res=none):=hid (by rw[<-gz.out,gB (fun h=>gr h.2)]);(have g3:decide ((m.kids.length:Int)>0)=true:=by rw[gR];omega);(have g4:(0:Int)<(m.kids.length:Int):=by omega);clear D gh;go_wp2_with fail;exact ph HF.out gn gb (jN _) rfl (by rfl) (by rfl) rfl
   obtain⟨rfl,rfl⟩:=gh h5 D (jS gr);have HF:=hid (show(cC r).map (fun r'=>.mk m.kind m.text r' m.pos)=res by rw[<-gz.out,gG ⟨D,gr⟩]);unfold nv at gl;rw[gr]at gl y2;clear D gr gz gh;have jk:oS (w.heap.size+2) (fun b=>X b/\b<w.heap.size) L w2 (.slice none 0 0) []:=oS.nil _ _ _ _;(have jd:w.heap.size+2<=L:=by omega);(have km:r.length<=1000000:=by omega);generalize hmk:m.kind=mk at *;generalize hmt:m.text=mt at *;generalize hmp:m.pos=mp at *;go_wp2_with fail;clear x0 x1 x2 x3 d0 d1 d2 d3 e0 e1 e2 e3 y0 y1 y3 f0 f1 f2 f3 y2 gn jz je ji;go_loopg [52] r.length (fun gg jp wr=>∃(j:Nat)(acc:List Nd)(A4:Option Addr)(c4:Nat),jp=.int .i64 (j:Int)/\j+gg=r.length/\acc.length<=j/\oS (w.heap.size+2) (fun b=>X b/\b<w.heap.size) L wr (.slice A4 acc.length c4) acc /\
    aq wr L 24 #[.int .i64 mk,.string mt,.slice A4 acc.length c4,.int .i64 mp]/\aq wr (w.heap.size+1) 24 bJ/\Below (w.heap.size+2) w0 wr/\L<wr.heap.size/\(acc=[]->A4=none/\c4=0)/\cC r=(cC (r.drop j)).map fun z=>acc++z)
   case atStart=>exact⟨0,[],none,0,rfl,by omega,by simp,jk,gl,gb,hc,gl.lt,fun _=>⟨rfl,rfl⟩,by simp⟩
   case round=>
    clear jk gl gb hc;obtain⟨j,acc,A4,c4,rfl,hj,kg,hO,hL,hG,hB,ku,j5,gj⟩:=hrel;have jn:=O.trans (hB.mono (by omega));obtain⟨d0,d1,d2,d3,e0,e1,e2,e3⟩:=ab hG;obtain⟨y0,y1,y2,y3,f0,f1,f2,f3⟩:=ab hL;by_cases gt:j<r.length
    case neg=>
     (have ej:j=r.length:=by omega);(have g5:¬ (j:Int)<(r.length:Int):=by omega);have g6:decide ((j:Int)<(r.length:Int))=false:=gP g5;have HE:=hid (show res=some (.mk mk mt acc mp)by rw[<-HF.out,gj,kz (by omega)];show some (Nd.mk mk mt (acc++[]) mp)=_;rw[kE]);have hV:=(af.of_slice hO.values mk mt mp).mono (Y:=fun b=>(X b\/w.heap.size<=b)/\b≠w.heap.size+1) fun b hb _=>by
      rcases hb with⟨h1,h2⟩|hb
      ·exact⟨.inl h1,by omega⟩
      ·exact⟨.inr (by omega),by omega⟩
     clear gj HF;go_wp2_with fail;exact pg (m:=.mk mk mt acc mp) HE.out hV jn hG (jN _) (fun _ _ h=>j5 h) rfl (by rfl) (by rfl) rfl
    case pos=>
     (have g5:(j:Int)<(r.length:Int):=by omega);have g6:decide ((j:Int)<(r.length:Int))=true:=jK g5;(have g7:(0:Int)<=(j:Int):=by omega);have g8:IntKind.i64.wrap ((j:Int)+1)=(j:Int)+1:=jC _ (by omega);obtain⟨A5,c5,k0,k1,k2,k3,h8⟩:=HK.out j gt wr (hB.mono (by omega));have jf:r.drop j=r[j]::r.drop (j+1):=kF gt;have ja:=jc r[j] (gS gt);have ka:=kc j gt;generalize r[j]=y at *;have hr:=hO.keep (w':=wr.alloc (.cells (nv y A5 c5) 24)) fun b _ _ J=>jI wr _ b J;have jl:=hL.alloc (.cells (nv y A5 c5) 24);have hu:=hG.alloc (.cells (nv y A5 c5) 24);have kv:=hB.size;have hw:=hB.alloc (show w.heap.size+2<=wr.heap.size by omega) (.cells (nv y A5 c5) 24);have jg:=aq.new wr 24 (nv y A5 c5);have h7:=h8.keep (w':=wr.alloc (.cells (nv y A5 c5) 24)) fun b _ J=>jI wr _ b J;(have kk:(wr.alloc (.cells (nv y A5 c5) 24)).heap.size=wr.heap.size+1:=by simp);(go_upto_region 15 with fail);change Code.wp _ _ _ _ (wr.alloc (.cells (nv y A5 c5) 24));generalize hTT:wr.heap.size=T at *;generalize wr.alloc (.cells (nv y A5 c5) 24)=w6 at *;clear d0 d1 d2 d3 e0 e1 e2 e3 y0 y1 y2 y3 f0 f1 f2 f3 k0 k1 k2 k3 hO hL hG hB jn h8;obtain⟨t0,t1,t2,t3,-,-,-,-⟩:=ab jg;go_wp2_with fail;refine(ih y ja ka _ _ _ h7).mono ?_;cases jo:bP y with
     |none=>have HE:Hid (res=none):=hid (by rw[<-HF.out,gj,jf,cC,jo];rfl);rintro e w7⟨M,rfl⟩;unfold bJ;have jy:=M.size;have gm:=(hu.bl M).alloc (.cells bJ 24);have gx:=((O.trans (hw.mono (by omega))).trans (M.mono (by omega))).alloc (by omega) (.cells bJ 24);unfold bJ at gm gx;obtain⟨d0,d1,d2,d3,e0,e1,e2,e3⟩:=ab gm;clear gj HF;go_wp2_with fail;exact ph HE.out gx gm (jN _) rfl (by rfl) (by rfl) rfl
     | some n2=>
      have jh:cC r=(cC (r.drop (j+1))).map fun z=>(acc++[n2])++z:=by
       rw[gj,jf,cC,jo];cases cC (r.drop (j+1))with
       |none=>rfl
       |some z=>simp
      rintro e w7⟨M,A7,c7,rfl,h6,-⟩;have jy:=M.size;have jm:=af.cells h6;have jw:=fun g hg=>(hr.lt g hg).2;have j9:=(hr.keep (w':=w7) fun b _ _ J=>M.block b J).keep (w':=w7.alloc (.cells (nv n2 A7 c7) 24)) fun b _ _ J=>jI w7 _ b J;have ht:=(jl.bl M).alloc (.cells (nv n2 A7 c7) 24);have gm:=(hu.bl M).alloc (.cells (nv n2 A7 c7) 24);have gx:=(hw.trans (M.mono (by omega))).alloc (show w.heap.size+2<=w7.heap.size by omega) (.cells (nv n2 A7 c7) 24);have j7:=aq.new w7 24 (nv n2 A7 c7);have kd:=jm.keep (w':=w7.alloc (.cells (nv n2 A7 c7) 24)) fun b _ J=>jI w7 _ b J;(have jx:(w7.alloc (.cells (nv n2 A7 c7) 24)).heap.size=w7.heap.size+1:=by simp);clear gj HF hr jl hu hw jg h7 h6 jm M t0 t1 t2 t3;(go_upto_region 16 with fail);change Code.wp _ _ _ _ (w7.alloc (.cells (nv n2 A7 c7) 24));generalize hUU:w7.heap.size=U at *;generalize w7.alloc (.cells (nv n2 A7 c7) 24)=w8 at *;obtain⟨t0,t1,t2,t3,-,-,-,-⟩:=ab j7;obtain⟨y0,y1,y2,y3,f0,f1,f2,f3⟩:=ab ht;have ke:=ht.lt;have kf:=gm.lt;(have ki:L≠w8.heap.size:=by omega);go_wp2_with (at_builtin;refine Bg rfl (.tmp 65) (.tmp 67) rfl (w.heap.size+2) w6.heap.size L (fun b=>X b/\b<w.heap.size) w8 (.slice A4 acc.length c4) acc n2 A7 c7 rfl _ rfl (by first|exact jx|rfl) j9 (fun b hb=>by have:=hb.2;omega) (by omega) (by omega) jd (by omega) jw (by omega) kd ?_;intro g9 c9 w9 hO9 hB9 hL9;have g0:aq w9 L 24 #[.int .i64 mk,.string mt,.slice A4 acc.length c4,.int .i64 mp]:=Eq.trans hL9 ht;obtain⟨z0,z1,z2,z3,h0,h1,h2,h3⟩:=ab g0);go_roundg (gk-1)
      case measure=>omega
      case rel=>
       have kt:=hB9.size;refine⟨j+1,acc++[n2],some ⟨g9,0,none⟩,c9,rfl,by omega,by simp;omega,?_,?_,?_,?_,?_,fun h=>by simp at h,jh⟩
       ·rw[gM];exact hO9.keep fun b _ hne _=>jU w9 ⟨L,2,none⟩ _ b hne
       ·rw[gM];simpa using g0.set_ 2 (.slice (some ⟨g9,0,none⟩) (acc.length+1) c9)
       ·exact(gm.below hB9 (by omega)).far (p:=⟨L,2,none⟩) (by show w.heap.size+1≠L;omega) _
       ·exact(gx.trans hB9).setCell (p:=⟨L,2,none⟩) jd _
       ·simp;omega
end
section
open Go.RowKit Go.Lib Go.Proofs
attribute [local go_sem ↓] Go.wp_at_zero Go.wp_at_succ
attribute [local go_sem] aR aS aT bu bv bw bz
def RZ(E:cw)(w:World)(r:bQ (Nd×Bool))(e:Ending)(w':World):Prop:=
 match r with
 | .ok x s=>(∃v,e=.returned (.tuple #[v,.bool x.2])/\af (fun b=>w.heap.size<=b) w' v x.1)/\aA E s w w'
 | .out=>False
def FG(E:cw):Prop:=(∀t∈E.c.toks,t.kind=4->∀w,OW E w->Calls prog 67 #[t.text] w fun e w'=>(∃v,e=.returned (.tuple #[t.text,v]))/\Below w w w') /\
 (∀t∈E.c.toks,t.kind=5->∀w,OW E w->Calls prog 68 #[t.text] w fun e w'=>(∃v,e=.returned (.tuple #[.string (mb t.text),v]))/\Below w w w')
theorem sX{E:cw}{w wk:World}{res:bQ (Nd×Bool)}{n:Nd}{bb:Bool}{s:St}{X:Nat->Prop}{a0 a1 a2 a3 z0 z1 z2 z3:Value}{g q rr:Nat}{fn:Func}{a:Act}(O:res=.ok (n,bb) s)
  (M:af X wk (.agg #[a0,a1,a2,a3]) n)(U:aA E s w wk)(hb:aq wk g 24 #[z0,z1,z2,z3])(h:w.heap.size<=g)(hR:E.R<g)(J:∀b,X b->w.heap.size<=b/\b≠g)
  (I:fn.results = #[.cell q 24,.tmp rr])(N:a.tmps.getD q undef=.pointer (some ⟨g,0,none⟩))(D:a.tmps.getD rr undef=.bool bb)(hd:a.defers=[]):
  bodyPost prog fn (RZ E w res) .ret a (dT wk g a0 a1 a2 a3):=by refine jY (rD I _ N D (dy hb a0 a1 a2 a3)) hd ?_;rw[O];exact⟨⟨_,rfl,(M.kept (dn (fun b hb=>(J b hb).2) _ _ _ _)).mono fun b hb _=>(J b hb).1⟩,fi U h hR _ _ _ _⟩
theorem CO{w:World}{T:Nat}{t:TypeId}{a b c:Value}(h:aq w T t #[a,b,c]):w.cell? ⟨T,0,none⟩=some a/\w.cell? ⟨T,1,none⟩=some b/\w.cell? ⟨T,2,none⟩=some c:=
 ⟨(h.cell 0).trans rfl,(h.cell 1).trans rfl,(h.cell 2).trans rfl⟩
theorem Pr(E:cw)(i:Nat)(I:(az E.c i).kind≠0):i<E.c.toks.length/\az E.c i∈E.c.toks:=by
 rcases kL i E.c.toks.length with D|D
 ·refine⟨D,?_⟩;unfold az;rw[gT D];exact gS D
 ·rw[nC E.c i D]at I;exact absurd rfl I
theorem CP(E:cw)(F:fK)(hF:nE E F)(gz:FG E)(w:World)(s:St)(h:aU E w s)(gw:cN F E.c s≠.out):
  Calls prog 172 #[E.R] w (RZ E w (cN F E.c s)):=by
 generalize hres:cN F E.c s=res at *;have gs:=hid gw;have ge:=h.lt;have hk:=h.most;have hy:=h.le;have gm:=hid (Pr E s.at_);have gi:=hid (show(if(az E.c s.at_).kind=1 then .ok (.mk 18 (az E.c s.at_).text [] (az E.c s.at_).pos,true) (adv { s with part :=-1 })
  else if(az E.c s.at_).kind=4 then .ok (.mk 16 (az E.c s.at_).text [] (az E.c s.at_).pos,false) (adv { s with part :=-1 })
  else if(az E.c s.at_).kind=5 then .ok (.mk 17 (mb (az E.c s.at_).text) [] (az E.c s.at_).pos,false) (adv { s with part :=-1 })
  else if aP E.c { s with part :=-1 } (⟨#[40]⟩:BA)then(cB F.expr E.c (adv { s with part :=-1 })).bind fun x s1=>(bV ⟨#[41]⟩ E.c s1).bind fun _ s2=>.ok (x,false) s2
  else if aP E.c { s with part :=-1 } (⟨#[102,117,110,99]⟩:BA)then(dm F (az E.c s.at_).pos (decide (s.part=(s.at_:Int))) E.c (adv { s with part :=-1 })).bind fun x s1=>.ok (x,false) s1
  else if cY E.c { s with part :=-1 }then(iD F (decide (s.part=(s.at_:Int))) E.c { s with part :=-1 }).bind fun x s1=>.ok (x,false) s1
  else .out)=res from hres)
 clear hres gw;have hj:(s.part==(s.at_:Int))=decide (s.part=(s.at_:Int)):=Bool.beq_eq_decide_eq _ _;(go_enter func172,ntmps172);go_wp2_with fail;refine(bL E s _ (h.alloc _)).mono ?_;unfold fY;rintro e w1⟨rfl,gy⟩;have he:=(((cJ.refl h).alloc _).step gy).moved;have hh:=(aq.new w 24 bJ).below gy (by simp);(have hw:w.heap.size+1<=w1.heap.size:=by have:=gy.size;simp at this;omega);clear gy;generalize htk:az E.c s.at_=tk at *;generalize decide (s.part=(s.at_:Int))=types at *;have hc:=aq.new w1 63 #[tk.kind,tk.text,tk.pos];have hg:=hh.alloc (.cells #[tk.kind,tk.text,tk.pos] 63);have g3:=he.alloc (.cells #[tk.kind,tk.text,tk.pos] 63);(have g6:w1.heap.size+1<=(w1.alloc (.cells #[tk.kind,tk.text,tk.pos] 63)).heap.size:=by simp);(go_upto_region 2 with fail);generalize hTT:w1.heap.size=T at *;change Code.wp _ _ _ _ (w1.alloc (.cells #[tk.kind,tk.text,tk.pos] 63));generalize w1.alloc (.cells #[tk.kind,tk.text,tk.pos] 63)=w2 at *;(have hz:T≠w.heap.size:=by omega);(have gp:T≠E.R:=by omega);clear hTT hh he;obtain⟨-,c1,-,-,c4,cf⟩:=g3.rd.cells;have f4:=cf 4;go_wp2_with fail;go_quiet (fail);have ha:=hc.drewN nq;have hf:=hg.drewN nq;have g2:=g3.drewN nq;have g5:T+1<=(w2.drewN nq).heap.size:=g6;clear c1 c4 cf f4 hc hg g3;generalize w2.drewN nq=w3 at *;obtain⟨-,-,-,-,c4,cf⟩:=g2.rd.cells;have f4:=cf 4;have ga:=ha.far (p:=⟨E.R,4,none⟩) gp (.int .i64 (-1));have gd:=hf.far (p:=⟨E.R,4,none⟩) (by show w.heap.size≠E.R;omega) (.int .i64 (-1));have I:=g2.setPart (-1);(go_upto_region 4 with fail);(have g0:T+1<=(w3.setCell ⟨E.R,4,none⟩ (.int .i64 (-1))).heap.size:=by simpa using g5);generalize w3.setCell ⟨E.R,4,none⟩ (.int .i64 (-1))=w4 at *;generalize hq:({ s with part :=-1 }:St)=q at *;(have g7:q.at_=s.at_:=by rw[<-hq]);clear hq f4 cf c4 ha hf g2 g5 g6;obtain⟨t0,t1,t2⟩:=CO ga;obtain⟨-,c1,-,-,-,cf⟩:=I.rd.cells;have f1:=cf 1;rw[g7]at c1;have g8:IntKind.i64.wrap ((s.at_:Int)+1)=(s.at_:Int)+1:=jC _ (by omega);(have gl:({ q with at_:=s.at_+1 }:St)=adv q:=by unfold adv;rw[g7]);by_cases h1:tk.kind=1
 ·have HF:=hid (show res=.ok (.mk 18 tk.text [] tk.pos,true) (adv q)by rw[<-gi.out,gG h1]);have k1:(tk.kind==1)=true:=beq_iff_eq.2 h1;have N:=ga.far (p:=⟨E.R,1,none⟩) gp (.int .i64 ((s.at_:Int)+1));have M:=gd.far (p:=⟨E.R,1,none⟩) (by show w.heap.size≠E.R;omega) (.int .i64 ((s.at_:Int)+1));have D:=I.setAt (s.at_+1) (by have:=(gm.out (by omega)).1;omega);rw[show((s.at_+1:Nat):Int)=(s.at_:Int)+1 from rfl,gl]at D;clear h1;(go_upto_region 6 with fail);(have gt:T+1<=(w4.setCell ⟨E.R,1,none⟩ (.int .i64 ((s.at_:Int)+1))).heap.size:=by simpa using g0);generalize w4.setCell ⟨E.R,1,none⟩ (.int .i64 ((s.at_:Int)+1))=w5 at *;clear t0 t1 t2 c1 cf f1 ga gd I;obtain⟨t0,t1,t2⟩:=CO N;go_wp2_with fail;refine(aM _ _ _ _ _ ⟨_,_,_,rfl⟩).mono ?_;rintro e w6⟨rfl,gh⟩;have J:=M.bl gh;have O:=D.step gh;obtain⟨d0,d1,d2,d3,e0,e1,e2,e3⟩:=ab J;go_wp2_with fail;exact sX (X:=fun _=>False) HF.out (af.leaf 18 tk.text tk.pos) O J (gC _) ge (fun _ h=>h.elim) rfl (by rfl) (by rfl) rfl
 have k1:(tk.kind==1)=false:=beq_eq_false_iff_ne.2 h1;by_cases h4:tk.kind=4
 ·have HF:=hid (show res=.ok (.mk 16 tk.text [] tk.pos,false) (adv q)by rw[<-gi.out,gB h1,gG h4]);have HL:=hid (gz.1 tk (gm.out (by omega)).2 h4);have k4:(tk.kind==4)=true:=beq_iff_eq.2 h4;have N:=ga.far (p:=⟨E.R,1,none⟩) gp (.int .i64 ((s.at_:Int)+1));have M:=gd.far (p:=⟨E.R,1,none⟩) (by show w.heap.size≠E.R;omega) (.int .i64 ((s.at_:Int)+1));have D:=I.setAt (s.at_+1) (by have:=(gm.out (by omega)).1;omega);rw[show((s.at_+1:Nat):Int)=(s.at_:Int)+1 from rfl,gl]at D;clear h4;(go_upto_region 9 with fail);(have gt:T+1<=(w4.setCell ⟨E.R,1,none⟩ (.int .i64 ((s.at_:Int)+1))).heap.size:=by simpa using g0);generalize w4.setCell ⟨E.R,1,none⟩ (.int .i64 ((s.at_:Int)+1))=w5 at *;clear t0 t1 t2 c1 cf f1 ga gd I;obtain⟨t0,t1,t2⟩:=CO N;go_wp2_with fail;refine(HL.out _ D.rd.old).mono ?_;rintro e w7⟨⟨v7,rfl⟩,gk⟩;have g1:=N.bl gk;have gb:=M.bl gk;have gg:=D.step gk;clear t0 t1 t2;obtain⟨t0,t1,t2⟩:=CO g1;go_wp2_with fail;refine(aM _ _ _ _ _ ⟨_,_,_,rfl⟩).mono ?_;rintro e w6⟨rfl,gh⟩;have J:=gb.bl gh;have O:=gg.step gh;obtain⟨d0,d1,d2,d3,e0,e1,e2,e3⟩:=ab J;go_wp2_with fail;exact sX (X:=fun _=>False) HF.out (af.leaf 16 tk.text tk.pos) O J (gC _) ge (fun _ h=>h.elim) rfl (by rfl) (by rfl) rfl
 have k4:(tk.kind==4)=false:=beq_eq_false_iff_ne.2 h4;by_cases h5:tk.kind=5
 ·have HF:=hid (show res=.ok (.mk 17 (mb tk.text) [] tk.pos,false) (adv q)by rw[<-gi.out,gB h1,gB h4,gG h5]);have HL:=hid (gz.2 tk (gm.out (by omega)).2 h5);have k5:(tk.kind==5)=true:=beq_iff_eq.2 h5;have N:=ga.far (p:=⟨E.R,1,none⟩) gp (.int .i64 ((s.at_:Int)+1));have M:=gd.far (p:=⟨E.R,1,none⟩) (by show w.heap.size≠E.R;omega) (.int .i64 ((s.at_:Int)+1));have D:=I.setAt (s.at_+1) (by have:=(gm.out (by omega)).1;omega);rw[show((s.at_+1:Nat):Int)=(s.at_:Int)+1 from rfl,gl]at D;clear h5;(go_upto_region 13 with fail);(have gt:T+1<=(w4.setCell ⟨E.R,1,none⟩ (.int .i64 ((s.at_:Int)+1))).heap.size:=by simpa using g0);generalize w4.setCell ⟨E.R,1,none⟩ (.int .i64 ((s.at_:Int)+1))=w5 at *;clear t0 t1 t2 c1 cf f1 ga gd I;obtain⟨t0,t1,t2⟩:=CO N;go_wp2_with fail;refine(HL.out _ D.rd.old).mono ?_;rintro e w7⟨⟨v7,rfl⟩,gk⟩;have g1:=N.bl gk;have gb:=M.bl gk;have gg:=D.step gk;clear t0 t1 t2;obtain⟨t0,t1,t2⟩:=CO g1;go_wp2_with fail;refine(aM _ _ _ _ _ ⟨_,_,_,rfl⟩).mono ?_;rintro e w6⟨rfl,gh⟩;have J:=gb.bl gh;have O:=gg.step gh;obtain⟨d0,d1,d2,d3,e0,e1,e2,e3⟩:=ab J;go_wp2_with fail;exact sX (X:=fun _=>False) HF.out (af.leaf 17 (mb tk.text) tk.pos) O J (gC _) ge (fun _ h=>h.elim) rfl (by rfl) (by rfl) rfl
 have k5:(tk.kind==5)=false:=beq_eq_false_iff_ne.2 h5;have HR:=hid (show(if aP E.c q ⟨#[40]⟩then(cB F.expr E.c (adv q)).bind fun x s1=>(bV ⟨#[41]⟩ E.c s1).bind fun _ s2=>.ok (x,false) s2
  else if aP E.c q ⟨#[102,117,110,99]⟩then(dm F tk.pos types E.c (adv q)).bind fun x s1=>.ok (x,false) s1
  else if cY E.c q then(iD F types E.c q).bind fun x s1=>.ok (x,false) s1
  else .out)=res by rw[<-gi.out,gB h1,gB h4,gB h5])
 clear gi h1 h4 h5 gm c1 cf f1 g8 gl;go_wp2_with fail;cases hA:aP E.c q ⟨#[40]⟩with
 | true=>
  have HE:=hid (show((cB F.expr E.c (adv q)).bind fun x s1=>(bV ⟨#[41]⟩ E.c s1).bind fun _ s2=>.ok (x,false) s2)=res by rw[<-HR.out,gG hA]);refine(aZ E q _ _ I.rd hA).mono ?_;rintro e w5⟨rfl,gx⟩;have M:=gd.grown gx.gr;have D:=I.trans gx;have gt:=gx.gr.size;clear HR hA ga gd I gx t0 t1 t2;go_wp2_with fail;have HC:=hid (fun gw=>B7 E 32 #[E.R] #[] F.expr (adv q) w5 D.rd (fun a w=>by kernel_rfl) (show ie E 32 (#[.pointer (some ⟨E.R,0,none⟩)] ++ #[]) F.expr w5 from hF.expr.part w5) gw);cases hP:cB F.expr E.c (adv q)with
  |out=>exact absurd HE.out.symm (by rw[hP];exact gs.out)
  |ok n s1=>
   have hi:=hid (show((bV ⟨#[41]⟩ E.c s1).bind fun _ s2=>.ok (n,false) s2)=res by rw[<-HE.out,hP];rfl);refine(HC.out (by rw[hP];exact nofun)).mono ?_;rw[hP];rintro e w6⟨⟨v,rfl,hv⟩,U⟩;obtain⟨A6,c6,rfl,-⟩:=hv.toC;have gb:=(M.grown U.gr).alloc (.cells (nv n A6 c6) 24);have gg:=(D.trans U).alloc (.cells (nv n A6 c6) 24);have hn:=aq.new w6 24 (nv n A6 c6);have g4:=U.gr.size;have hp:=hv.keep (w':=w6.alloc (.cells (nv n A6 c6) 24)) fun b _ hlt=>jI w6 _ b hlt;clear HC HE hP M D hv U;(go_upto_region 17 with fail);change Code.wp _ _ _ _ (w6.alloc (.cells (nv n A6 c6) 24));generalize hXX:w6.heap.size=X at *;generalize w6.alloc (.cells (nv n A6 c6) 24)=w7 at *;(have hl:X≠E.R:=by omega);go_wp2_with fail;cases hB:aP E.c s1 ⟨#[41]⟩with
   |false=>exact absurd (show res=.out by rw[<-hi.out,bV,gB (by rw[hB];decide)];rfl) gs.out
   |true=>have HF:=hid (show res=.ok (n,false) (adv s1)by rw[<-hi.out,bV,gG hB];rfl);refine(de E s1 _ _ gg.rd hB).mono ?_;rintro e w8⟨rfl,gj⟩;have gq:=gb.grown gj.gr;have hm:=hn.grown gj.gr (fun e=>hl (by injection e));have ht:=gg.trans gj;have ho:=hp.keep (w':=w8) (am.of_grown (X:=fun b=>w5.heap.size<=b) gj.gr).block;obtain⟨x0,x1,x2,x3,-,-,-,-⟩:=ab hm;obtain⟨d0,d1,d2,d3,e0,e1,e2,e3⟩:=ab gq;go_wp2_with fail;refine sX HF.out ho ht gq (gC _) ge ?_ rfl (by rfl) (by rfl) rfl;intro b hb;constructor<;>omega
 | false=>
  refine(bB E q _ _ I.rd hA).mono ?_;rintro e w5⟨rfl,gn⟩;have N:=ga.bl gn.bel;have M:=gd.bl gn.bel;have D:=I.trans gn.moved;have gt:=gn.bel.size;clear ga gd I gn t0 t1 t2;obtain⟨t0,t1,t2⟩:=CO N;go_wp2_with fail;cases hB:aP E.c q ⟨#[102,117,110,99]⟩with
  |true=>
   have HE:=hid (show((dm F tk.pos types E.c (adv q)).bind fun x s1=>.ok (x,false) s1)=res by rw[<-HR.out,gB (by rw[hA];decide),gG hB]);refine(aZ E q _ _ D.rd hB).mono ?_;rintro e w6⟨rfl,U⟩;have hr:=N.grown U.gr (fun e=>gp (by injection e));have J:=M.grown U.gr;have O:=D.trans U;have g4:=U.gr.size;clear HR hA hB N M D U t0 t1 t2;obtain⟨t0,t1,t2⟩:=CO hr;go_wp2_with fail;cases hP:dm F tk.pos types E.c (adv q)with
   |out=>exact absurd HE.out.symm (by rw[hP];exact gs.out)
   |ok n s1=>have HF:Hid (res=.ok (n,false) s1):=hid (by rw[<-HE.out,hP];rfl);refine(Bf E F hF tk.pos types _ _ O.rd (by rw[hP];exact nofun)).mono ?_;rw[hP];rintro e w7⟨⟨v,rfl,hv⟩,g9⟩;obtain⟨A7,c7,rfl,-⟩:=hv.toC;have gb:=J.grown g9.gr;obtain⟨d0,d1,d2,d3,e0,e1,e2,e3⟩:=ab gb;go_wp2_with fail;refine sX HF.out hv (O.trans g9) gb (gC _) ge ?_ rfl (by rfl) (by rfl) rfl;intro b hb;constructor<;>omega
  | false=>
   refine(bB E q _ _ D.rd hB).mono ?_;rintro e w6⟨rfl,gv⟩;have J:=M.bl gv.bel;have O:=D.trans gv.moved;have g4:=gv.bel.size;clear N M D gv t0 t1 t2;go_wp2_with fail;refine(pG E q _ O.rd).mono ?_;rintro e w7⟨rfl,gu⟩;have gb:=J.bl gu.bel;have gg:=O.trans gu.moved;have hu:=gu.bel.size;clear J O gu;cases hC:cY E.c q with
   |true=>
    have HE:=hid (show((iD F types E.c q).bind fun x s1=>.ok (x,false) s1)=res by rw[<-HR.out,gB (by rw[hA];decide),gB (by rw[hB];decide),gG hC]);go_wp2_with fail;cases hP:iD F types E.c q with
    |out=>exact absurd HE.out.symm (by rw[hP];exact gs.out)
    |ok n s1=>have HF:Hid (res=.ok (n,false) s1):=hid (by rw[<-HE.out,hP];rfl);refine(Em E F hF types _ q gg.rd (by rw[hP];exact nofun)).mono ?_;rw[hP];rintro e w8⟨⟨v,rfl,hv⟩,gj⟩;obtain⟨A8,c8,rfl,-⟩:=hv.toC;have gq:=gb.grown gj.gr;obtain⟨d0,d1,d2,d3,e0,e1,e2,e3⟩:=ab gq;go_wp2_with fail;refine sX HF.out hv (gg.trans gj) gq (gC _) ge ?_ rfl (by rfl) (by rfl) rfl;intro b hb;constructor<;>omega
   |false=>exact absurd (show res=.out by rw[<-HR.out,gB (by rw[hA];decide),gB (by rw[hB];decide),gB (by rw[hC];decide)]) gs.out
end
end Go.Proofs.YteialcjaiocjdaaGreatDoor
