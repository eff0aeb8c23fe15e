/-
  Parts of the proof: Rprim. By an AI agent.
-/
import Derived.Test.YteialcjaiocjdaaGreatDoorJ31
import Derived.Test.YteialcjaiocjdaaGreatDoorJ02
open Go.Proofs.Tryz
set_option maxRecDepth 100000
set_option maxHeartbeats 8000000
namespace Go.Proofs.YteialcjaiocjdaaGreatDoor
section
open Go.RowKit Go.Lib Go.Proofs
attribute [local go_sem ↓] Go.wp_at_zero Go.wp_at_succ
attribute [local go_sem] aR aS aT bu bv bw bz
theorem bG.val{X:Nat->Prop}{w:World}{n:Nd}{A:Option Addr}{c:Nat}(h:bG X w n [.int .i64 n.kind,.string n.text,.slice A n.kids.length c,.int .i64 n.pos]):af X w (.agg (nv n A c)) n:=by obtain⟨U,O,D,I,N,M,J⟩:=h.toV;simp only[qx,vy,true_and]at I;injection I with e1 _ e3;exact⟨U,O,D,by rw[e1,e3],N,M,J⟩
theorem Mh{r:bQ Nd}{n:Nd}{s1:St}(h:(r.bind fun x s2=>bQ.ok (x,false) s2)=.ok (n,true) s1):False:=by
 cases r with
 |ok x s2=>have h:bQ.ok (x,false) s2=.ok (n,true) s1:=h;injection h with h _;injection h with _ h;cases h
 |out=>cases h
theorem Ps{F:fK}{c:Cx}{s s1:St}{n:Nd}{bare:Bool}(h:cN F c s=.ok (n,bare) s1)(hb:bare=true):Ix n/\n.kind≠10:=by
 subst hb;unfold cN at h;simp only at h;split at h
 ·injection h with h _;injection h with h _;subst h;refine⟨?_,by simp⟩;unfold Ix ou;exact⟨fun h=>by omega,by simp,trivial⟩
 ·exfalso;split at h
  ·injection h with h _;injection h with _ h;cases h
  ·split at h
   ·injection h with h _;injection h with _ h;cases h
   ·split at h
    ·cases D:cB F.expr c (adv { s with part :=-1 })with
     |ok x s2=>
      rw[D]at h;have h:((bV ⟨#[41]⟩ c s2).bind fun _ s3=>bQ.ok (x,false) s3)=.ok (n,true) s1:=h;cases I:bV ⟨#[41]⟩ c s2 with
      |ok u s3=>rw[I]at h;have h:bQ.ok (x,false) s3=.ok (n,true) s1:=h;injection h with h _;injection h with _ h;cases h
      |out=>rw[I]at h;cases h
     |out=>rw[D]at h;cases h
    ·split at h
     ·exact Mh h
     ·split at h
      ·exact Mh h
      ·cases h
theorem Bj:∀{l:List Nd}{n:Nd},ou l->Ix n->ou (l++[n])
 |[],n,_,h=>by unfold ou;exact⟨h,by unfold ou;trivial⟩
 |x::r,n,D,h=>by unfold ou at D;show ou (x::(r++[n]));unfold ou;exact⟨D.1,Bj D.2 h⟩
theorem CS{part:R Nd}{c:Cx}(N:∀s n s1,part c s=.ok n s1->Ix n)(en:ByteArray):∀(g:Nat)(acc:List Nd)(s:St)(l:List Nd)(s':St),bh part en g acc c s=.ok l s'->ou acc->ou l
 |0,_,_,_,_,h,_=>by simp[bh]at h
 | g+1,acc,s,l,s',h,J=>by
  simp only[bh]at h;split at h
  ·injection h with M _;subst M;exact J
  ·cases I:part c s with
   |out=>rw[I]at h;cases h
   | ok n s1=>
    have D:=N s n s1 I;rw[I]at h;simp only[bQ.bind_ok]at h;split at h
    ·injection h with M _;subst M;exact Bj J D
    ·cases O:bV ⟨#[44]⟩ c s1 with
     |out=>rw[O]at h;cases h
     |ok u s2=>rw[O]at h;exact CS N en g (acc++[n]) s2 l s' h (Bj J D)
theorem Pt{F:fK}{c:Cx}(J:∀s x s1,F.expr c s=.ok x s1->Ix x)(out:Nd)(l:List Nd){s s':St}(M:Ix out/\out.kind≠10)(D:cB (bh (cX F) ⟨#[93]⟩ F.g []) c s=.ok l s')(O:¬ l.length=0)(hg:F.g+1<=1000000):
  Ix (.mk 22 ⟨#[]⟩ (out::l) out.pos)/\(Nd.mk 22 ⟨#[]⟩ (out::l) out.pos).kind≠10:=by
 have N:=pe D;refine⟨?_,by simp⟩;have U:ou l:=by
  unfold cB at D;cases I:bh (cX F) ⟨#[93]⟩ F.g [] c { s with head:=false }with
  |out=>rw[I]at D;cases D
  |ok l1 s1=>rw[I]at D;simp only[bQ.bind_ok]at D;injection D with h1 _;subst h1;exact CS (fun s n s1 h=>J { s with part:=s.at_ } n s1 h) _ _ [] { s with head:=false } _ _ I (by unfold ou;trivial)
 unfold Ix;refine⟨fun _=>⟨out,l,rfl,?_,M.2⟩,by simp only[gO];omega,?_⟩
 ·rintro rfl;exact O rfl
 ·unfold ou;exact⟨M.1,U⟩
theorem nK{E:cw}{s3:St}{w D w8 w9:World}{K P:Nat}{out:Nd}{l:List Nd}{A:Option Addr}{c:Nat}{A8:Option Addr}{c8:Nat}{ys:List Value}{b0 b1 b2 b3:Value}(kind:Int)(t:ByteArray)
  (gh:aA E s3 w D)(gq:E.R<w.heap.size)(gm:bG (fun b=>(w.heap.size<=b/\b≠w.heap.size+1/\b≠K)/\b≠P) D out [.int .i64 out.kind,.string out.text,.slice A out.kids.length c,.int .i64 out.pos])
  (gi:ah (fun b=>(w.heap.size<=b/\b≠w.heap.size+1/\b≠K)/\b≠P) D l ys)(hP:K<P)(gu:P<D.heap.size)(gr:w.heap.size+2<=K)
  (N:w8.ownsRow P 24 4 (.slice A8 (1+l.length) c8) (1+l.length) ([.int .i64 out.kind,.string out.text,.slice A out.kids.length c,.int .i64 out.pos]++ys))(I:D.grownBy w8 (some P))
  (U:(Value.slice A8 (1+l.length) c8).ownBlock=some P\/(Value.slice A8 (1+l.length) c8).ownBlock=some D.heap.size)
  (J:Below w8 w8 w9)(gj:aq w9 K 24 #[b0,b1,b2,b3])(gn:aq D w.heap.size 41 #[E.R])(gk:aq D (w.heap.size+1) 24 bJ):
  aq (dT w9 K (.int .i64 kind) (.string t) (.slice A8 (1+l.length) c8) (.int .i64 out.pos)) K 24 #[kind,t,.slice A8 (l.length+1) c8,out.pos] /\
  bG (fun b=>w.heap.size<=b/\b≠w.heap.size+1/\b≠K) (dT w9 K (.int .i64 kind) (.string t) (.slice A8 (1+l.length) c8) (.int .i64 out.pos)) (.mk kind t (out::l) out.pos) [.int .i64 kind,.string t,.slice A8 (out::l).length c8,.int .i64 out.pos] /\
  aq (dT w9 K (.int .i64 kind) (.string t) (.slice A8 (1+l.length) c8) (.int .i64 out.pos)) w.heap.size 41 #[E.R] /\
  aq (dT w9 K (.int .i64 kind) (.string t) (.slice A8 (1+l.length) c8) (.int .i64 out.pos)) (w.heap.size+1) 24 bJ /\
  aA E s3 w (dT w9 K (.int .i64 kind) (.string t) (.slice A8 (1+l.length) c8) (.int .i64 out.pos)):=by
 have gt:=I.size;have gs:=J.size;have gb:=am.of_grown (X:=fun b=>(w.heap.size<=b/\b≠w.heap.size+1/\b≠K)/\b≠P) I (fun g e hX=>by injection e with e;exact hX.2 e.symm);have gl:=((ah.cons gm gi).keep (w':=w8) gb.block).mono (Y:=fun b=>w.heap.size<=b/\b≠w.heap.size+1/\b≠K) (fun b hb _=>hb.1);have ge:=rC (X:=fun b=>w.heap.size<=b/\b≠w.heap.size+1/\b≠K) (l:=out::l) N (by simp;omega) (fun g hg=>by
  rcases U with e|e<;>rw[hg]at e<;>injection e with e
  ·exact⟨by omega,by omega,by omega⟩
  ·exact⟨by omega,by omega,by omega⟩) gl
 have gd:=(ge.kept (am.of_below (X:=fun b=>w.heap.size<=b/\b≠w.heap.size+1/\b≠K) J (fun b _ h=>h))).kept (dn (fun b hb=>hb.2.2) (.int .i64 kind) (.string t) (.slice A8 (1+l.length) c8) (.int .i64 out.pos));have hn:=af.of_slice gd kind t out.pos;have gg:aA E s3 w w9:=(gh.grownNew I (by omega) (by omega)).step J;(have M:∀{g:Nat}{ty:TypeId}{C:Array Value},g<K->aq D g ty C->aq (dT w9 K (.int .i64 kind) (.string t) (.slice A8 (1+l.length) c8) (.int .i64 out.pos)) g ty C:=by intro g ty C hgK hb;have h9:=(hb.grown I).below J (by have:=hb.lt;omega);exact(((h9.far (p:=⟨K,0,none⟩) (by show g≠K;omega) _).far (p:=⟨K,1,none⟩) (by show g≠K;omega) _).far (p:=⟨K,2,none⟩) (by show g≠K;omega) _).far (p:=⟨K,3,none⟩) (by show g≠K;omega) _);refine⟨?_,?_,M (by omega) gn,M (by omega) gk,fi gg (by omega) (by omega) _ _ _ _⟩
 ·have h:=dy gj (.int .i64 kind) (.string t) (.slice A8 (1+l.length) c8) (.int .i64 out.pos);generalize dT w9 K (.int .i64 kind) (.string t) (.slice A8 (1+l.length) c8) (.int .i64 out.pos)=W at h |-;rw[Nat.add_comm l.length 1];exact h
 obtain⟨A9,c9,ga,O,h1,h2,h3⟩:=hn;injection O with O;have O:=jM Array.toList O;simp only[qx]at O;obtain⟨-,-,gp,-,-⟩:=O;injection gp with e1 e2 e3;subst e1 e3;unfold bG;exact⟨_,_,ga,rfl,h1,h2,h3⟩
theorem CT (E:cw)(F:fK)(hF:nE E F)(j0:FG E)(kf:∀s x s1,F.expr E.c s=.ok x s1->Ix x)(ki:F.g+1<=1000000):d9 E (lU F) 117:=by
 intro w s h hno;generalize hres:lU F E.c s=res at *;have jc:=hid (show(cN F E.c s).bind (fun x s1=>aK F F.g x.1 x.2 E.c s1)=res from hres);have hm:=hid hno;have hg:=h.lt;clear hres hno;have js:aq ((w.alloc (.cells #[E.R] 41)).alloc (.cells bJ 24)) w.heap.size 41 #[E.R]:=(aq.new w _ _).alloc _;have j3:aq ((w.alloc (.cells #[E.R] 41)).alloc (.cells bJ 24)) (w.heap.size+1) 24 bJ:=aq.new_at (by simp) _ _;have jq:=((aA.refl h).alloc (.cells #[E.R] 41)).alloc (.cells bJ 24);(have kq:((w.alloc (.cells #[E.R] 41)).alloc (.cells bJ 24)).heap.size=w.heap.size+2:=by simp);(go_enter func117,ntmps117);(go_upto_region 1 with fail);change Code.wp _ _ _ _ ((w.alloc (.cells #[E.R] 41)).alloc (.cells bJ 24));generalize(w.alloc (.cells #[E.R] 41)).alloc (.cells bJ 24)=w0 at *;have b0:=ce js;go_wp2_with fail;cases hP:cN F E.c s with
 |out=>exact absurd jc.out.symm (by rw[hP];exact hm.out)
 | ok x s1=>
  obtain⟨n,bare⟩:=x;have jp:bare=true->Ix n/\n.kind≠10:=Ps hP;have HE:Hid (aK F F.g n bare E.c s1=res):=hid (by rw[<-jc.out,hP];rfl);refine(CP E F hF j0 _ s jq.rd (by rw[hP];exact nofun)).mono ?_;rw[hP];rintro e w1⟨⟨v,rfl,hv⟩,h5⟩;obtain⟨A1,c1,rfl,jm⟩:=hv.toC;have kb:=h5.gr.size;have j7:=(js.grown h5.gr).alloc (.cells (nv n A1 c1) 24);have j2:=(j3.grown h5.gr).alloc (.cells (nv n A1 c1) 24);have jz:=(jq.trans h5).alloc (.cells (nv n A1 c1) 24);have j1:=aq.new w1 24 (nv n A1 c1);have jm:=jm.mono (Y:=fun b=>w.heap.size<=b/\b≠w.heap.size+1/\b≠w1.heap.size) fun b hb hlt=>⟨by omega,by omega,by omega⟩;have j5:=(jm.keep (w':=w1.alloc (.cells (nv n A1 c1) 24)) fun b _ hlt=>jI w1 _ b hlt);(go_upto_region 3 with fail);change Code.wp _ _ _ _ (w1.alloc (.cells (nv n A1 c1) 24));generalize hKK:w1.heap.size=K at *;generalize w1.alloc (.cells (nv n A1 c1) 24)=w2 at *;(have kr:K≠w.heap.size+1:=by omega);(have g4:K≠E.R:=by omega);(have h4:w.heap.size+2<=K:=by omega);clear jm hv hP jc js j3 jq h5 b0 kb hKK;go_loopg [4] F.g (fun gg u4 wr=>∃(out:Nd)(bare:Bool)(U:St)(A:Option Addr)(c:Nat),u4=.bool bare/\aq wr K 24 (nv out A c) /\
   bG (fun b=>w.heap.size<=b/\b≠w.heap.size+1/\b≠K) wr out [.int .i64 out.kind,.string out.text,.slice A out.kids.length c,.int .i64 out.pos]/\aq wr w.heap.size 41 #[E.R]/\aq wr (w.heap.size+1) 24 bJ /\
   aA E U w wr/\aK F gg out bare E.c U=res/\(bare=true->Ix out/\out.kind≠10))
  case atStart=>exact⟨n,bare,s1,A1,c1,rfl,j1,j5,j7,j2,jz,HE.out,jp⟩
  case round=>
   obtain⟨out,bare,U,A,c,rfl,hK,hC,hB,hG,hM,hr,jw⟩:=hrel;(have j6:w.heap.size≠E.R:=by omega);cases gk with
   |zero=>exact absurd hr.symm (by rw[aK];exact hm.out)
   | succ g1=>
    have HR:=hid hr;clear hr HE j1 j5 j7 j2 jz;have b0:=ce hB;go_wp2_with fail;cases hA:aP E.c U ⟨#[40]⟩with
    | true=>
     refine(aZ E U _ _ hM.rd hA).mono ?_;rintro e J⟨rfl,ga⟩;have N:=hK.grown ga.gr (fun e=>g4 (by injection e));have gu:=hC.keep (w':=J) (am.of_grown (X:=fun b=>w.heap.size<=b/\b≠w.heap.size+1/\b≠K) ga.gr (fun g e hX=>by injection e with e;subst e;have hX:w.heap.size<=E.R:=hX.1;omega)).block;have M:=hB.grown ga.gr;have gt:=hG.grown ga.gr;have gd:=hM.trans ga;have HE:=hid (show(cB (bh F.expr ⟨#[41]⟩ F.g []) E.c (adv U)).bind (fun l s3=>aK F g1 (.mk 21 ⟨#[]⟩ (out::l) out.pos) false E.c s3)=res by rw[<-HR.out,aK];simp only[hA,kG]);clear hK hC hB hG hM ga b0 hA HR;have c0:=ce M;obtain⟨x0,x1,x2,x3,hq,hp,ho,hn⟩:=ab N;go_wp2_with fail;(have hh:∀a w,(callFunc 174 a).run prog w=.ok (.enter 174 a) w:=fun a w=>by kernel_rfl);have jt:=hid hh;clear hh;let SS:World->Prop:=fun w'=>w'.cell? ⟨K,0,none⟩=some (.int .i64 out.kind)/\w'.cell? ⟨K,1,none⟩=some (.string out.text)/\w'.cell? ⟨K,2,none⟩=some (.slice A out.kids.length c)/\w'.cell? ⟨K,3,none⟩=some (.int .i64 out.pos)/\w'.cell? ⟨w,0,none⟩=some (.pointer (some ⟨E.R,0,none⟩));have ssOf:∀W,aq W K 24 (nv out A c)->aq W w.heap.size 41 #[E.R]->SS W:=fun W h1 h2=>⟨(ab h1).1,(ab h1).2.1,(ab h1).2.2.1,(ab h1).2.2.2.1,ce h2⟩;have SSO:=hid ssOf;have hw:SS J.drew:=ssOf _ N.drew M.drew;clear ssOf;have hk:=N.lt;cases hQ:cB (bh F.expr ⟨#[41]⟩ F.g []) E.c (adv U)with
     |out=>exact absurd HE.out.symm (by rw[hQ];exact hm.out)
     | ok l s3=>
      have g8:Hid (aK F g1 (.mk 21 ⟨#[]⟩ (out::l) out.pos) false E.c s3=res):=hid (by rw[<-HE.out,hQ];rfl);have HC:=hid (fun W(hr:aU E W (adv U))(hc:W.cell? ⟨w,0,none⟩=some (.pointer (some ⟨E.R,0,none⟩)))=>pF E 174 #[] #[w] (bh F.expr ⟨#[41]⟩ F.g []) (adv U) W hr jt.out (G1 E F hF w.heap.size W hc j6) (by rw[hQ];exact nofun));rw[hQ]at HC;have kc:=pe hQ;have jx:=hF.g;obtain⟨i0,hi,jf,je,jd⟩:=qE o0;clear x0 x1 x2 x3 c0 HE hQ;refine mW 9 (S:=SS) (by kernel_rfl) hw ?_;intro D;(refine CR 0 [1,8,9] D ?_);(refine CR 1 [8,9] D ?_);(refine CR 2 [3,7,8,9] D ?_);(refine CR 4 [6,7,8,9] D ?_);(refine CR 5 [6,7,8,9] D ?_);(refine bm (rs:=[3,6]) (by kernel_rfl) (by simp) ?_;refine(dO.cons rfl (fun Z hZ=>?_) (dO.cons rfl (fun Z hZ=>?_) dO.nil)))
      ·go_simp;(refine hZ.out _ _ (.inl ?_) (fun D=>?_))
       ·exact SSO.out _ (N.drew.alloc _) (M.drew.alloc _)
       (clear hZ Z;replace D:=D.resolve_right (by decide));(refine bm (rs:=[6]) (by kernel_rfl) (by simp) ?_;refine(dO.cons rfl (fun Z hZ=>?_) dO.nil));go_simp;(go_at_call 173);refine(HC.out _ (gd.drew.alloc _).rd (ce (M.drew.alloc _))).mono ?_;rintro e w7⟨⟨v7,rfl,g9⟩,I⟩;obtain⟨A7,c7,ys,rfl,jn,he,gv⟩:=g9;have gm:=(N.drew.alloc (.cells (nv out A c) 24)).grown I.gr (fun e=>g4 (by injection e));have ge:=(M.drew.alloc (.cells (nv out A c) 24)).grown I.gr;have g6:=(gt.drew.alloc (.cells (nv out A c) 24)).grown I.gr;have g2:=(aq.new J.drew 24 (nv out A c)).grown I.gr (fun e=>by injection e with e;have e:J.heap.size=E.R:=e;omega);have g3:=(gd.drew.alloc (.cells (nv out A c) 24)).trans I;(have jv:J.heap.size+1<=w7.heap.size:=by have:=I.gr.size;simpa using this);have g7:=((gu.mono (Y:=fun b=>(w.heap.size<=b/\b≠w.heap.size+1/\b≠K)/\b≠J.heap.size) fun b hb hlt=>⟨hb,by omega⟩).keep (w:=J) (w':=J.drew.alloc (.cells (nv out A c) 24)) fun b _ hlt=>jI J.drew _ b hlt).keep (w':=w7) (am.of_grown (X:=fun b=>(w.heap.size<=b/\b≠w.heap.size+1/\b≠K)/\b≠J.heap.size) I.gr (fun g e hX=>by injection e with e;subst e;have hX:w.heap.size<=E.R:=hX.1.1;omega)).block;(have ja:=gv.mono (Y:=fun b=>(w.heap.size<=b/\b≠w.heap.size+1/\b≠K)/\b≠J.heap.size) fun b hb _=>by(have hb:J.heap.size+1<=b:=by simpa using hb);exact⟨⟨by omega,by omega,by omega⟩,by omega⟩);have ha:=nJ he (by omega);have hf:=iU gv;have g5:K<J.heap.size:=hk;(have g0:J.heap.size<w7.heap.size:=by omega);clear I gv he;(refine hZ.out _ _ (.inl ?_) (fun D=>?_))
       ·exact SSO.out _ gm ge
       (clear hZ Z;replace D:=D.resolve_right (by decide));(refine bm (rs:=[7]) (by kernel_rfl) (by simp) ?_;refine(dO.cons rfl (fun Z hZ=>?_) dO.nil));refine fm _ (by rfl) (.tmp 20) (.tmp 23) 22 (by rfl) J.heap.size 24 i0 _ 4 56 underlying22 hi jf je jd (by rfl) (by omega) (.slice (some ⟨J,0,none⟩) 1 1) 1 [.int .i64 out.kind,.string out.text,.slice A out.kids.length c,.int .i64 out.pos] (by rfl) (ot g2 (gC _)) w7.heap.size A7 l.length c7 ys (by rfl) ha hf (by unfold maxLen;omega) (by omega) (by omega) ?_;intro v8 w8 hown8 hg8 hat8;obtain⟨A8,c8,rfl,jy⟩:=pf hown8;have gs:=gm.grown hg8 (fun e=>by have e:some K=some J.heap.size:=e;injection e with e;omega);have gx:=ge.grown hg8 (fun e=>by have e:some w.heap.size=some J.heap.size:=e;injection e with e;omega);(refine hZ.out _ _ (.inl ?_) (fun D=>?_))
       ·exact SSO.out _ gs gx
       (clear hZ Z;replace D:=D.resolve_right (by decide));(refine bm (rs:=[8]) (by kernel_rfl) (by simp) ?_;refine(dO.cons rfl (fun Z hZ=>?_) dO.nil));go_simp;(go_at_call 55);refine(aM _ _ _ _ _ ⟨_,_,_,rfl⟩).mono ?_;rintro e w9⟨rfl,gb⟩;have O:=gs.bl gb;have gw:=gx.bl gb;(refine hZ.out _ _ (.inl ?_) (fun D=>?_))
       ·exact SSO.out _ O gw
       (clear hZ Z;replace D:=D.resolve_right (by decide));(refine bm (rs:=[9]) (by kernel_rfl) (by simp) ?_;refine(dO.cons rfl (fun Z hZ=>?_) dO.nil));obtain⟨x0,x1,x2,x3,hq,hp,ho,hn⟩:=ab O;go_simp;(refine hZ.out _ _ (.inr rfl) (fun _=>?_);clear hZ Z;refine lY (by kernel_rfl) ?_ _);have hN:=nK 21 ⟨#[]⟩ g3 hg g7 ja g5 g0 h4 hown8 hg8 hat8 gb O ge g6;go_wp2_with fail;go_roundg g1
       case measure=>omega
       case rel=>exact⟨.mk 21 ⟨#[]⟩ (out::l) out.pos,false,s3,A8,c8,rfl,hN.1,hN.2.1,hN.2.2.1,hN.2.2.2.1,hN.2.2.2.2,g8.out,fun h=>by cases h⟩
      ·go_simp;(go_at_call 173);refine(HC.out _ gd.drew.rd (ce M.drew)).mono ?_;rintro e w6⟨⟨v7,rfl,g9⟩,I⟩;obtain⟨A7,c7,ys,rfl,jn,he,gv⟩:=g9;have gh:=N.drew.grown I.gr (fun e=>g4 (by injection e));have gp:=M.drew.grown I.gr;have gi:=gt.drew.grown I.gr;have gl:=gd.drew.trans I;have ka:J.heap.size<=w6.heap.size:=I.gr.size;have gn:=gu.keep (w:=J) (w':=w6) (am.of_grown (w:=J.drew) (X:=fun b=>w.heap.size<=b/\b≠w.heap.size+1/\b≠K) I.gr (fun g e hX=>by injection e with e;subst e;have hX:w.heap.size<=E.R:=hX.1;omega)).block;have hf:=iU gv;(refine hZ.out _ _ (.inl ?_) (fun D=>?_))
       ·exact SSO.out _ gh gp
       (clear hZ Z;replace D:=D.resolve_right (by decide));(refine bm (rs:=[3]) (by kernel_rfl) (by simp) ?_;refine(dO.cons rfl (fun Z hZ=>?_) dO.nil));go_simp;have gm:=gh.alloc (.cells (nv out A c) 24);have ge:=gp.alloc (.cells (nv out A c) 24);have g6:=gi.alloc (.cells (nv out A c) 24);have g3:=gl.alloc (.cells (nv out A c) 24);have g2:=aq.new w6 24 (nv out A c);have g7:=(gn.mono (Y:=fun b=>(w.heap.size<=b/\b≠w.heap.size+1/\b≠K)/\b≠w6.heap.size) fun b hb hlt=>⟨hb,by omega⟩).keep (w':=w6.alloc (.cells (nv out A c) 24)) fun b _ hlt=>jI w6 _ b hlt;have ja:=(gv.mono (Y:=fun b=>(w.heap.size<=b/\b≠w.heap.size+1/\b≠K)/\b≠w6.heap.size) fun b hb hlt=>by have hb:J.heap.size<=b:=hb;exact⟨⟨by omega,by omega,by omega⟩,by omega⟩).keep (w':=w6.alloc (.cells (nv out A c) 24)) fun b _ hlt=>jI w6 _ b hlt;have ha:=nJ (he.keep (w':=w6.alloc (.cells (nv out A c) 24)) fun b _ hlt=>jI w6 _ b hlt) (by omega);(have g5:K<w6.heap.size:=by omega);(have g0:w6.heap.size<(w6.alloc (.cells (nv out A c) 24)).heap.size:=by simp);(refine hZ.out _ _ (.inl ?_) (fun D=>?_))
       ·exact SSO.out _ gm ge
       (clear hZ Z;replace D:=D.resolve_right (by decide));clear I gv he gh gp gi gl gn;generalize w6.heap.size=P at *;generalize w6.alloc (.cells (nv out A c) 24)=w7 at *;(refine bm (rs:=[7]) (by kernel_rfl) (by simp) ?_;refine(dO.cons rfl (fun Z hZ=>?_) dO.nil));refine fm _ (by rfl) (.tmp 20) (.tmp 23) 22 (by rfl) P 24 i0 _ 4 56 underlying22 hi jf je jd (by rfl) (by omega) (.slice (some ⟨P,0,none⟩) 1 1) 1 [.int .i64 out.kind,.string out.text,.slice A out.kids.length c,.int .i64 out.pos] (by rfl) (ot g2 (gC _)) w7.heap.size A7 l.length c7 ys (by rfl) ha hf (by unfold maxLen;omega) (by omega) (by omega) ?_;intro v8 w8 hown8 hg8 hat8;obtain⟨A8,c8,rfl,jy⟩:=pf hown8;have gs:=gm.grown hg8 (fun e=>by have e:some K=some P:=e;injection e with e;omega);have gx:=ge.grown hg8 (fun e=>by have e:some w.heap.size=some P:=e;injection e with e;omega);(refine hZ.out _ _ (.inl ?_) (fun D=>?_))
       ·exact SSO.out _ gs gx
       (clear hZ Z;replace D:=D.resolve_right (by decide));(refine bm (rs:=[8]) (by kernel_rfl) (by simp) ?_;refine(dO.cons rfl (fun Z hZ=>?_) dO.nil));go_simp;(go_at_call 55);refine(aM _ _ _ _ _ ⟨_,_,_,rfl⟩).mono ?_;rintro e w9⟨rfl,gb⟩;have O:=gs.bl gb;have gw:=gx.bl gb;(refine hZ.out _ _ (.inl ?_) (fun D=>?_))
       ·exact SSO.out _ O gw
       (clear hZ Z;replace D:=D.resolve_right (by decide));(refine bm (rs:=[9]) (by kernel_rfl) (by simp) ?_;refine(dO.cons rfl (fun Z hZ=>?_) dO.nil));obtain⟨x0,x1,x2,x3,hq,hp,ho,hn⟩:=ab O;go_simp;(refine hZ.out _ _ (.inr rfl) (fun _=>?_);clear hZ Z;refine lY (by kernel_rfl) ?_ _);have hN:=nK 21 ⟨#[]⟩ g3 hg g7 ja g5 g0 h4 hown8 hg8 hat8 gb O ge g6;go_wp2_with fail;go_roundg g1
       case measure=>omega
       case rel=>exact⟨.mk 21 ⟨#[]⟩ (out::l) out.pos,false,s3,A8,c8,rfl,hN.1,hN.2.1,hN.2.2.1,hN.2.2.2.1,hN.2.2.2.2,g8.out,fun h=>by cases h⟩
    | false=>
     refine(bB E U _ _ hM.rd hA).mono ?_;rintro e J⟨rfl,h0⟩;have N:=hK.bl h0.bel;have gu:=hC.keep (w':=J) fun b _ hlt=>h0.bel.block b hlt;have M:=hB.bl h0.bel;have gt:=hG.bl h0.bel;have gd:=hM.trans h0.moved;clear hK hC hB hG hM h0 b0;have b0:=ce M;go_wp2_with fail;cases hS:aP E.c U ⟨#[91]⟩with
     | true=>
      refine(aZ E U _ _ gd.rd hS).mono ?_;rintro e w3'⟨rfl,ga⟩;have hl:=N.grown ga.gr (fun e=>g4 (by injection e));have hu:=gu.keep (w':=w3') (am.of_grown (X:=fun b=>w.heap.size<=b/\b≠w.heap.size+1/\b≠K) ga.gr (fun g e hX=>by injection e with e;subst e;have hX:w.heap.size<=E.R:=hX.1;omega)).block;have gz:=M.grown ga.gr;have ht:=gt.grown ga.gr;have gy:=gd.trans ga;have HE:=hid (show(cB (bh (cX F) ⟨#[93]⟩ F.g []) E.c (adv U)).bind (fun l s3=>if l.length=0 then .out else aK F g1 (.mk 22 ⟨#[]⟩ (out::l) out.pos) bare E.c s3)=res by rw[<-HR.out,aK];simp only[hA,hS,gW,jW,kG]);clear N gu M gt gd ga b0 hA hS HR;have b0:=ce gz;(have hh:∀a w,(callFunc 175 a).run prog w=.ok (.enter 175 a) w:=fun a w=>by kernel_rfl);have jt:=hid hh;clear hh;go_wp2_with fail;cases hQ:cB (bh (cX F) ⟨#[93]⟩ F.g []) E.c (adv U)with
      |out=>exact absurd HE.out.symm (by rw[hQ];exact hm.out)
      | ok l s3=>
       have ju:=hid (show(if l.length=0 then .out else aK F g1 (.mk 22 ⟨#[]⟩ (out::l) out.pos) bare E.c s3)=res by rw[<-HE.out,hQ];rfl);have kc:=pe hQ;have jx:=ki;refine(pF E 175 #[] #[w] (bh (cX F) ⟨#[93]⟩ F.g []) (adv U) _ gy.rd jt.out (G2 E F hF w.heap.size _ (ce gz) j6) (by rw[hQ];exact nofun)).mono ?_;rw[hQ];rintro e J⟨⟨v7,rfl,g9⟩,I⟩;obtain⟨A7,c7,ys,rfl,jn,he,gv⟩:=g9;have N:=hl.grown I.gr (fun e=>g4 (by injection e));have gu:=hu.keep (w':=J) (am.of_grown (X:=fun b=>w.heap.size<=b/\b≠w.heap.size+1/\b≠K) I.gr (fun g e hX=>by injection e with e;subst e;have hX:w.heap.size<=E.R:=hX.1;omega)).block;have M:=gz.grown I.gr;have gt:=ht.grown I.gr;have gd:=gy.trans I;have kp:=I.gr.size;have km:=hl.lt;clear hl hu gz ht gy I b0 HE;have b0:=ce M;by_cases jh:l.length=0
       ·exact absurd (show res=.out by rw[<-ju.out,gG jh]) hm.out
       ·have g8:Hid (aK F g1 (.mk 22 ⟨#[]⟩ (out::l) out.pos) bare E.c s3=res):=hid (by rw[<-ju.out,gB jh]);(have kk:((l.length:Int)==0)=false:=by rw[gF];omega);have kj:=hid (fun hb:bare=true=>Pt kf out l (jw hb) hQ jh jx);clear ju jh hQ;obtain⟨i0,hi,jf,je,jd⟩:=qE o0;go_wp2_with fail;let SS:World->Prop:=fun w'=>w'.cell? ⟨K,0,none⟩=some (.int .i64 out.kind)/\w'.cell? ⟨K,1,none⟩=some (.string out.text)/\w'.cell? ⟨K,2,none⟩=some (.slice A out.kids.length c)/\w'.cell? ⟨K,3,none⟩=some (.int .i64 out.pos)/\w'.cell? ⟨w,0,none⟩=some (.pointer (some ⟨E.R,0,none⟩));have ssOf:∀W,aq W K 24 (nv out A c)->aq W w.heap.size 41 #[E.R]->SS W:=fun W h1 h2=>⟨(ab h1).1,(ab h1).2.1,(ab h1).2.2.1,(ab h1).2.2.2.1,ce h2⟩;have SSO:=hid ssOf;have hw:SS J.drew:=ssOf _ N.drew M.drew;clear ssOf;have hk:=N.lt;refine mW 7 (S:=SS) (by kernel_rfl) hw ?_;intro D;(refine CR 0 [1,6,7] D ?_);(refine CR 1 [6,7] D ?_);(refine CR 2 [3,5,6,7] D ?_);(refine CR 4 [5,6,7] D ?_);(refine bm (rs:=[3]) (by kernel_rfl) (by simp) ?_;refine(dO.cons rfl (fun Z hZ=>?_) dO.nil));go_simp;have gm:=(N.alloc (.cells (nv out A c) 24)).drew;have ge:=(M.alloc (.cells (nv out A c) 24)).drew;have g6:=(gt.alloc (.cells (nv out A c) 24)).drew;have g3:=(gd.alloc (.cells (nv out A c) 24)).drew;have g2:=(aq.new J 24 (nv out A c)).drew;have g7:=(gu.mono (Y:=fun b=>(w.heap.size<=b/\b≠w.heap.size+1/\b≠K)/\b≠J.heap.size) fun b hb hlt=>⟨hb,by omega⟩).keep (w:=J) (w':=(J.alloc (.cells (nv out A c) 24)).drew) fun b _ hlt=>jI J _ b hlt;have ja:=(gv.mono (Y:=fun b=>(w.heap.size<=b/\b≠w.heap.size+1/\b≠K)/\b≠J.heap.size) fun b hb hlt=>⟨⟨by omega,by omega,by omega⟩,by omega⟩).keep (w:=J) (w':=(J.alloc (.cells (nv out A c) 24)).drew) fun b _ hlt=>jI J _ b hlt;have ha:=nJ (he.keep (w:=J) (w':=(J.alloc (.cells (nv out A c) 24)).drew) fun b _ hlt=>jI J _ b hlt) (by omega);have hf:=iU gv;have g5:K<J.heap.size:=hk;(have g0:J.heap.size<((J.alloc (.cells (nv out A c) 24)).drew).heap.size:=by simp);(refine hZ.out _ _ (.inl ?_) (fun D=>?_))
        ·exact SSO.out _ gm ge
        (clear hZ Z;replace D:=D.resolve_right (by decide));clear gv he gu gt gd N M b0 hw;generalize(J.alloc (.cells (nv out A c) 24)).drew=w7 at *;(refine bm (rs:=[5]) (by kernel_rfl) (by simp) ?_;refine(dO.cons rfl (fun Z hZ=>?_) dO.nil));refine fm _ (by rfl) (.tmp 47) (.tmp 48) 22 (by rfl) J.heap.size 24 i0 _ 4 56 underlying22 hi jf je jd (by rfl) (by omega) (.slice (some ⟨J,0,none⟩) 1 1) 1 [.int .i64 out.kind,.string out.text,.slice A out.kids.length c,.int .i64 out.pos] (by rfl) (ot g2 (gC _)) w7.heap.size A7 l.length c7 ys (by rfl) ha hf (by unfold maxLen;omega) (by omega) (by omega) ?_;intro v8 w8 hown8 hg8 hat8;obtain⟨A8,c8,rfl,jy⟩:=pf hown8;have gs:=gm.grown hg8 (fun e=>by have e:some K=some J.heap.size:=e;injection e with e;omega);have gx:=ge.grown hg8 (fun e=>by have e:some w.heap.size=some J.heap.size:=e;injection e with e;omega);(refine hZ.out _ _ (.inl ?_) (fun D=>?_))
        ·exact SSO.out _ gs gx
        (clear hZ Z;replace D:=D.resolve_right (by decide));(refine bm (rs:=[6]) (by kernel_rfl) (by simp) ?_;refine(dO.cons rfl (fun Z hZ=>?_) dO.nil));go_simp;(go_at_call 55);refine(aM _ _ _ _ _ ⟨_,_,_,rfl⟩).mono ?_;rintro e w9⟨rfl,gb⟩;have O:=gs.bl gb;have gw:=gx.bl gb;(refine hZ.out _ _ (.inl ?_) (fun D=>?_))
        ·exact SSO.out _ O gw
        (clear hZ Z;replace D:=D.resolve_right (by decide));(refine bm (rs:=[7]) (by kernel_rfl) (by simp) ?_;refine(dO.cons rfl (fun Z hZ=>?_) dO.nil));obtain⟨x0,x1,x2,x3,hq,hp,ho,hn⟩:=ab O;go_simp;(refine hZ.out _ _ (.inr rfl) (fun _=>?_);clear hZ Z;refine lY (by kernel_rfl) ?_ _);have hN:=nK 22 ⟨#[]⟩ g3 hg g7 ja g5 g0 h4 hown8 hg8 hat8 gb O ge g6;go_wp2_with fail;go_roundg g1
        case measure=>omega
        case rel=>exact⟨.mk 22 ⟨#[]⟩ (out::l) out.pos,bare,s3,A8,c8,rfl,hN.1,hN.2.1,hN.2.2.1,hN.2.2.2.1,hN.2.2.2.2,g8.out,kj.out⟩
     | false=>
      refine(bB E U _ _ gd.rd hS).mono ?_;rintro e w4⟨rfl,hz⟩;have hl:=N.bl hz.bel;have hu:=gu.keep (w':=w4) fun b _ hlt=>hz.bel.block b hlt;have gz:=M.bl hz.bel;have ht:=gt.bl hz.bel;have gy:=gd.trans hz.moved;clear N gu M gt gd hz b0;have b0:=ce gz;go_wp2_with fail;cases hD:aP E.c U ⟨#[46]⟩with
      | true=>
       refine(aZ E U _ _ gy.rd hD).mono ?_;rintro e J⟨rfl,ga⟩;have N:=hl.grown ga.gr (fun e=>g4 (by injection e));have gu:=hu.keep (w':=J) (am.of_grown (X:=fun b=>w.heap.size<=b/\b≠w.heap.size+1/\b≠K) ga.gr (fun g e hX=>by injection e with e;subst e;have hX:w.heap.size<=E.R:=hX.1;omega)).block;have M:=gz.grown ga.gr;have gt:=ht.grown ga.gr;have gd:=gy.trans ga;have HE:=hid (show(cT E.c (adv U)).bind (fun x s3=>aK F g1 (.mk 23 x [out] out.pos) false E.c s3)=res by rw[<-HR.out,aK];simp only[hA,hS,hD,gW,jW,kG]);clear hl hu gz ht gy ga b0 hA hS hD HR;have c0:=ce M;obtain⟨x0,x1,x2,x3,hq,hp,ho,hn⟩:=ab N;go_wp2_with fail;let SS:World->Prop:=fun w'=>w'.cell? ⟨K,0,none⟩=some (.int .i64 out.kind)/\w'.cell? ⟨K,1,none⟩=some (.string out.text)/\w'.cell? ⟨K,2,none⟩=some (.slice A out.kids.length c)/\w'.cell? ⟨K,3,none⟩=some (.int .i64 out.pos)/\w'.cell? ⟨w,0,none⟩=some (.pointer (some ⟨E.R,0,none⟩));have ssOf:∀W,aq W K 24 (nv out A c)->aq W w.heap.size 41 #[E.R]->SS W:=fun W h1 h2=>⟨(ab h1).1,(ab h1).2.1,(ab h1).2.2.1,(ab h1).2.2.2.1,ce h2⟩;have SSO:=hid ssOf;have hw:SS J.drew:=ssOf _ N.drew M.drew;clear ssOf;have hk:=N.lt;clear x0 x1 x2 x3 c0 hq hp ho hn;by_cases h6:(az E.c (adv U).at_).kind=1
       case neg=>
        have HF:Hid (res=.out):=hid (by rw[<-HE.out,cT,gB h6];rfl);have HC:=hid (fun W(hr:aU E W (adv U))=>OX E (adv U) W hr h6);refine mW 7 (S:=SS) (by kernel_rfl) hw ?_;intro D;(refine CR 0 [1,6,7] D ?_);(refine CR 1 [6,7] D ?_);(refine CR 2 [3,6,7] D ?_);(refine CR 4 [5,6,7] D ?_);(refine bm (rs:=[3,5]) (by kernel_rfl) (by simp) ?_;refine(dO.cons rfl (fun Z hZ=>?_) (dO.cons rfl (fun Z hZ=>?_) dO.nil)))
        ·exact absurd (HF.out) hm.out
        ·exact absurd (HF.out) hm.out
       case pos=>
        have g8:Hid (aK F g1 (.mk 23 (az E.c (adv U).at_).text [out] out.pos) false E.c (adv (adv U))=res):=hid (by rw[<-HE.out,cT,gG h6];rfl);have HC:=hid (fun W(hr:aU E W (adv U))=>lg E (adv U) W hr h6);clear HE h6;generalize(az E.c (adv U).at_).text=tx at *;refine mW 7 (S:=SS) (by kernel_rfl) hw ?_;intro D;(refine CR 0 [1,6,7] D ?_);(refine CR 1 [6,7] D ?_);(refine CR 2 [3,6,7] D ?_);(refine CR 4 [5,6,7] D ?_);(refine bm (rs:=[3,5]) (by kernel_rfl) (by simp) ?_;refine(dO.cons rfl (fun Z hZ=>?_) (dO.cons rfl (fun Z hZ=>?_) dO.nil)))
        ·go_simp;(go_at_call 56);refine(HC.out _ gd.drew.rd).mono ?_;rintro e w6⟨rfl,I⟩;have gh:=N.drew.grown I.gr (fun e=>g4 (by injection e));have gp:=M.drew.grown I.gr;have gi:=gt.drew.grown I.gr;have gl:=gd.drew.trans I;have ka:J.heap.size<=w6.heap.size:=I.gr.size;have gn:=gu.keep (w:=J) (w':=w6) (am.of_grown (w:=J.drew) (X:=fun b=>w.heap.size<=b/\b≠w.heap.size+1/\b≠K) I.gr (fun g e hX=>by injection e with e;subst e;have hX:w.heap.size<=E.R:=hX.1;omega)).block;(refine hZ.out _ _ (.inl ?_) (fun D=>?_))
         ·exact SSO.out _ gh gp
         (clear hZ Z;replace D:=D.resolve_right (by decide));(refine bm (rs:=[5]) (by kernel_rfl) (by simp) ?_;refine(dO.cons rfl (fun Z hZ=>?_) dO.nil));go_simp;have gm:=gh.alloc (.cells (nv out A c) 24);have ge:=gp.alloc (.cells (nv out A c) 24);have g6:=gi.alloc (.cells (nv out A c) 24);have g3:=gl.alloc (.cells (nv out A c) 24);have g2:=aq.new w6 24 (nv out A c);have g7:=(gn.mono (Y:=fun b=>(w.heap.size<=b/\b≠w.heap.size+1/\b≠K)/\b≠w6.heap.size) fun b hb hlt=>⟨hb,by omega⟩).keep (w':=w6.alloc (.cells (nv out A c) 24)) fun b _ hlt=>jI w6 _ b hlt;(have g5:K<w6.heap.size:=by omega);(have g0:w6.heap.size<(w6.alloc (.cells (nv out A c) 24)).heap.size:=by simp);(refine hZ.out _ _ (.inl ?_) (fun D=>?_))
         ·exact SSO.out _ gm ge
         (clear hZ Z;replace D:=D.resolve_right (by decide));clear I gh gp gi gl gn;generalize w6.heap.size=P at *;generalize w6.alloc (.cells (nv out A c) 24)=w7 at *;(refine bm (rs:=[6]) (by kernel_rfl) (by simp) ?_;refine(dO.cons rfl (fun Z hZ=>?_) dO.nil));go_simp;(go_at_call 55);refine(aM _ _ _ _ _ ⟨_,_,_,rfl⟩).mono ?_;rintro e w9⟨rfl,gb⟩;have O:=gm.bl gb;have gw:=ge.bl gb;(refine hZ.out _ _ (.inl ?_) (fun D=>?_))
         ·exact SSO.out _ O gw
         (clear hZ Z;replace D:=D.resolve_right (by decide));(refine bm (rs:=[7]) (by kernel_rfl) (by simp) ?_;refine(dO.cons rfl (fun Z hZ=>?_) dO.nil));obtain⟨x0,x1,x2,x3,hq,hp,ho,hn⟩:=ab O;go_simp;(refine hZ.out _ _ (.inr rfl) (fun _=>?_);clear hZ Z;refine lY (by kernel_rfl) ?_ _);have hN:=nK (l:=[]) (ys:=[]) (w8:=w7) (A8:=some ⟨P,0,none⟩) (c8:=1) 23 tx g3 hg g7 ah.nil g5 g0 h4 (ot g2 (gC _)) (World.grownBy.refl w7 _) (.inl rfl) gb O ge g6;go_wp2_with fail;go_roundg g1
         case measure=>omega
         case rel=>exact⟨.mk 23 tx [out] out.pos,false,adv (adv U),some ⟨P,0,none⟩,1,rfl,hN.1,hN.2.1,hN.2.2.1,hN.2.2.2.1,hN.2.2.2.2,g8.out,fun h=>by cases h⟩
        ·go_simp;(refine hZ.out _ _ (.inl ?_) (fun D=>?_))
         ·exact SSO.out _ (N.drew.alloc _) (M.drew.alloc _)
         (clear hZ Z;replace D:=D.resolve_right (by decide));(refine bm (rs:=[3]) (by kernel_rfl) (by simp) ?_;refine(dO.cons rfl (fun Z hZ=>?_) dO.nil));go_simp;(go_at_call 56);refine(HC.out _ (gd.drew.alloc _).rd).mono ?_;rintro e w7⟨rfl,I⟩;have gm:=(N.drew.alloc (.cells (nv out A c) 24)).grown I.gr (fun e=>g4 (by injection e));have ge:=(M.drew.alloc (.cells (nv out A c) 24)).grown I.gr;have g6:=(gt.drew.alloc (.cells (nv out A c) 24)).grown I.gr;have g2:=(aq.new J.drew 24 (nv out A c)).grown I.gr (fun e=>by injection e with e;have e:J.heap.size=E.R:=e;omega);have g3:=(gd.drew.alloc (.cells (nv out A c) 24)).trans I;(have jv:J.heap.size+1<=w7.heap.size:=by have:=I.gr.size;simpa using this);have g7:=((gu.mono (Y:=fun b=>(w.heap.size<=b/\b≠w.heap.size+1/\b≠K)/\b≠J.heap.size) fun b hb hlt=>⟨hb,by omega⟩).keep (w:=J) (w':=J.drew.alloc (.cells (nv out A c) 24)) fun b _ hlt=>jI J.drew _ b hlt).keep (w':=w7) (am.of_grown (X:=fun b=>(w.heap.size<=b/\b≠w.heap.size+1/\b≠K)/\b≠J.heap.size) I.gr (fun g e hX=>by injection e with e;subst e;have hX:w.heap.size<=E.R:=hX.1.1;omega)).block;have g5:K<J.heap.size:=hk;(have g0:J.heap.size<w7.heap.size:=by omega);clear I;(refine hZ.out _ _ (.inl ?_) (fun D=>?_))
         ·exact SSO.out _ gm ge
         (clear hZ Z;replace D:=D.resolve_right (by decide));(refine bm (rs:=[6]) (by kernel_rfl) (by simp) ?_;refine(dO.cons rfl (fun Z hZ=>?_) dO.nil));go_simp;(go_at_call 55);refine(aM _ _ _ _ _ ⟨_,_,_,rfl⟩).mono ?_;rintro e w9⟨rfl,gb⟩;have O:=gm.bl gb;have gw:=ge.bl gb;(refine hZ.out _ _ (.inl ?_) (fun D=>?_))
         ·exact SSO.out _ O gw
         (clear hZ Z;replace D:=D.resolve_right (by decide));(refine bm (rs:=[7]) (by kernel_rfl) (by simp) ?_;refine(dO.cons rfl (fun Z hZ=>?_) dO.nil));obtain⟨x0,x1,x2,x3,hq,hp,ho,hn⟩:=ab O;go_simp;(refine hZ.out _ _ (.inr rfl) (fun _=>?_);clear hZ Z;refine lY (by kernel_rfl) ?_ _);have hN:=nK (l:=[]) (ys:=[]) (w8:=w7) (A8:=some ⟨J,0,none⟩) (c8:=1) 23 tx g3 hg g7 ah.nil g5 g0 h4 (ot g2 (gC _)) (World.grownBy.refl w7 _) (.inl rfl) gb O ge g6;go_wp2_with fail;go_roundg g1
         case measure=>omega
         case rel=>exact⟨.mk 23 tx [out] out.pos,false,adv (adv U),some ⟨J,0,none⟩,1,rfl,hN.1,hN.2.1,hN.2.2.1,hN.2.2.2.1,hN.2.2.2.2,g8.out,fun h=>by cases h⟩
      | false=>
       refine(bB E U _ _ gy.rd hD).mono ?_;rintro e w5⟨rfl,hy⟩;have ji:=hl.bl hy.bel;have jl:=hu.keep (w':=w5) fun b _ hlt=>hy.bel.block b hlt;have jb:=gz.bl hy.bel;have jk:=ht.bl hy.bel;have h3:=gy.trans hy.moved;clear hl hu gz ht gy hy b0;have b0:=ce jb;go_wp2_with fail;cases hI:aP E.c U ⟨#[123]⟩with
       |false=>have HF:Hid (res=.ok out U):=hid (by rw[<-HR.out,aK];simp[hA,hS,hD,hI]);refine(bY E U ⟨#[123]⟩ _ h3.rd).mono ?_;rw[hI];rintro e w6⟨rfl,gq⟩;have gh:=ji.bl gq;have gn:=jl.keep (w':=w6) fun b _ hlt=>gq.block b hlt;have gp:=jb.bl gq;have gi:=jk.bl gq;have gl:=h3.step gq;clear ji jl jb jk h3 gq b0;have b0:=ce gp;obtain⟨x0,x1,x2,x3,-,-,-,-⟩:=ab gh;obtain⟨d0,d1,d2,d3,e0,e1,e2,e3⟩:=ab gi;go_wp2_with fail;refine av HF.out (bG.val gn) gl gi (jN _) (by omega) ?_ rfl (by rfl) rfl;intro b hb;exact⟨hb.1,hb.2.1⟩
       | true=>
        refine(bY E U ⟨#[123]⟩ _ h3.rd).mono ?_;rw[hI];rintro e w6⟨rfl,gq⟩;have gh:=ji.bl gq;have gn:=jl.keep (w':=w6) fun b _ hlt=>gq.block b hlt;have gp:=jb.bl gq;have gi:=jk.bl gq;have gl:=h3.step gq;clear ji jl jb jk h3 gq b0;have b0:=ce gp;obtain⟨-,-,-,c3,-,-⟩:=gl.rd.cells;cases bare with
        |false=>have HF:Hid (res=.ok out U):=hid (by rw[<-HR.out,aK];simp[hA,hS,hD,hI]);obtain⟨x0,x1,x2,x3,-,-,-,-⟩:=ab gh;obtain⟨d0,d1,d2,d3,e0,e1,e2,e3⟩:=ab gi;go_wp2_with fail;refine av HF.out (bG.val gn) gl gi (jN _) (by omega) ?_ rfl (by rfl) rfl;intro b hb;exact⟨hb.1,hb.2.1⟩
        | true=>
         cases hH:U.head with
         |true=>have HF:Hid (res=.ok out U):=hid (by rw[<-HR.out,aK];simp[hA,hS,hD,hI,hH]);rw[hH]at c3;obtain⟨x0,x1,x2,x3,-,-,-,-⟩:=ab gh;obtain⟨d0,d1,d2,d3,e0,e1,e2,e3⟩:=ab gi;go_wp2_with fail;refine av HF.out (bG.val gn) gl gi (jN _) (by omega) ?_ rfl (by rfl) rfl;intro b hb;exact⟨hb.1,hb.2.1⟩
         | false=>
          rw[hH]at c3;obtain⟨x0,x1,x2,x3,-,-,-,-⟩:=ab gh;have kg:=jw rfl;go_wp2_with fail;refine(Eo _ out (gC _) kg.1 _ w6 _ (bG.val gn)).mono ?_;cases hT:bP out with
          |none=>have HF:Hid (res=.ok out U):=hid (by rw[<-HR.out,aK];simp[hA,hS,hD,hI,hH,hT]);rintro e w7⟨hj,rfl⟩;unfold bJ;have gj:Below w6 w6 (w7.alloc (.cells bJ 24)):=hj.alloc hj.size _;have gs:=gh.bl gj;have j4:=gn.keep (w':=w7.alloc (.cells bJ 24)) fun b _ hlt=>gj.block b hlt;have jj:=gi.bl gj;have h8:=gl.step gj;unfold bJ at gs j4 h8;have jo:aq (w7.alloc (.cells #[.int .i64 0,.string ⟨#[]⟩,.slice none 0 0,.int .i64 0] 24)) (w.heap.size+1) 24 bJ:=jj;clear x0 x1 x2 x3 hj gh gn gi gl gp c3 b0 jj;obtain⟨x0,x1,x2,x3,-,-,-,-⟩:=ab gs;obtain⟨d0,d1,d2,d3,e0,e1,e2,e3⟩:=ab jo;go_wp2_with fail;refine av HF.out (bG.val j4) h8 jo (jN _) (by omega) ?_ rfl (by rfl) rfl;intro b hb;exact⟨hb.1,hb.2.1⟩
          | some tt=>
           have HE:=hid (show(dc F tt E.c U).bind (fun n s1=>aK F g1 n false E.c s1)=res by rw[<-HR.out,aK];simp[hA,hS,hD,hI,hH,hT]);rintro e w7⟨hj,A7,c7,rfl,g9,-⟩;have gj:Below w6 w6 (w7.alloc (.cells (nv tt A7 c7) 24)):=hj.alloc hj.size _;have gs:=gh.bl gj;have gx:=gp.bl gj;have jj:=gi.bl gj;have h8:=gl.step gj;have kl:=gh.lt;have jv:=hj.size;have j9:=(g9.mono (Y:=fun b=>w.heap.size<=b/\b≠w.heap.size+1/\b≠K) fun b hb _=>by
            rcases hb with hb|hb
            ·exact hb
            ·exact⟨by omega,by omega,by omega⟩).keep (w':=w7.alloc (.cells (nv tt A7 c7) 24)) fun b _ hlt=>jI w7 _ b hlt
           have kd:=aq.new w7 24 (nv tt A7 c7);(have ko:w7.heap.size+1<=(w7.alloc (.cells (nv tt A7 c7) 24)).heap.size:=by simp);clear x0 x1 x2 x3 hj gj g9 gh gn gi gl gp c3 b0 hA hS hD hI hH hT HR;(go_upto_region 15 with fail);generalize w7.heap.size=T at *;generalize w7.alloc (.cells (nv tt A7 c7) 24)=w8 at *;have b0:=ce gx;obtain⟨y0,y1,y2,y3,-,-,-,-⟩:=ab kd;go_wp2_with fail;cases hQ:dc F tt E.c U with
           |out=>exact absurd HE.out.symm (by rw[hQ];exact hm.out)
           | ok n9 s9=>
            have g8:Hid (aK F g1 n9 false E.c s9=res):=hid (by rw[<-HE.out,hQ];rfl);refine(Bh E F hF (fun b=>w.heap.size<=b/\b≠w.heap.size+1/\b≠K) (fun hX=>by have hX:w.heap.size<=E.R:=hX.1;omega) _ U tt _ h8.rd j9 (by rw[hQ];exact nofun)).mono ?_;rw[hQ];rintro e w9⟨⟨v9,rfl,j8⟩,jg⟩;obtain⟨A9,c9,rfl,jr⟩:=j8.toC;have O:=gs.grown jg.gr (fun e=>g4 (by injection e));have gw:=gx.grown jg.gr;have kh:=jj.grown jg.gr;have ke:=h8.trans jg;have jr:=jr.mono (Y:=fun b=>w.heap.size<=b/\b≠w.heap.size+1/\b≠K) fun b hb _=>by
             rcases hb with hb|hb
             ·exact hb
             ·exact⟨by omega,by omega,by omega⟩
            (have h7:∀{g:Nat}{ty:TypeId}{C:Array Value},g<K->aq w9 g ty C->aq (dT w9 K (.int .i64 n9.kind) (.string n9.text) (.slice A9 n9.kids.length c9) (.int .i64 n9.pos)) g ty C:=by intro g ty C hgK h9;exact(((h9.far (p:=⟨K,0,none⟩) (by show g≠K;omega) _).far (p:=⟨K,1,none⟩) (by show g≠K;omega) _).far (p:=⟨K,2,none⟩) (by show g≠K;omega) _).far (p:=⟨K,3,none⟩) (by show g≠K;omega) _);have hN:aq (dT w9 K (.int .i64 n9.kind) (.string n9.text) (.slice A9 n9.kids.length c9) (.int .i64 n9.pos)) K 24 (nv n9 A9 c9) /\
              bG (fun b=>w.heap.size<=b/\b≠w.heap.size+1/\b≠K) (dT w9 K (.int .i64 n9.kind) (.string n9.text) (.slice A9 n9.kids.length c9) (.int .i64 n9.pos)) n9 [.int .i64 n9.kind,.string n9.text,.slice A9 n9.kids.length c9,.int .i64 n9.pos] /\
              aq (dT w9 K (.int .i64 n9.kind) (.string n9.text) (.slice A9 n9.kids.length c9) (.int .i64 n9.pos)) w.heap.size 41 #[E.R] /\
              aq (dT w9 K (.int .i64 n9.kind) (.string n9.text) (.slice A9 n9.kids.length c9) (.int .i64 n9.pos)) (w.heap.size+1) 24 bJ /\
              aA E s9 w (dT w9 K (.int .i64 n9.kind) (.string n9.text) (.slice A9 n9.kids.length c9) (.int .i64 n9.pos)):=
             ⟨dy O _ _ _ _,jr.keep (dn (fun b hb=>hb.2.2) _ _ _ _).block,h7 (by omega) gw,h7 (by omega) kh,fi ke (by omega) (by omega) _ _ _ _⟩
            obtain⟨d0,d1,d2,d3,e0,e1,e2,e3⟩:=ab O;clear h7 y0 y1 y2 y3 b0;have HN:=hid hN;clear hN;go_wp2_with fail;go_roundg g1
            case measure=>omega
            case rel=>exact⟨n9,false,s9,A9,c9,rfl,HN.out.1,HN.out.2.1,HN.out.2.2.1,HN.out.2.2.2.1,HN.out.2.2.2.2,g8.out,fun h=>by cases h⟩
end
end Go.Proofs.YteialcjaiocjdaaGreatDoor
