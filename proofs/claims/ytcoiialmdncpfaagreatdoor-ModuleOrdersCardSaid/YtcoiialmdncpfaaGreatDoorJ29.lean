/-
  Parts of the proof: Rprim Lok OkF. By an AI agent.
-/
import Derived.Test.YtcoiialmdncpfaaGreatDoorJ28
import Derived.Test.YtcoiialmdncpfaaGreatDoorJ25
import Derived.Test.YtcoiialmdncpfaaGreatDoorJ02
import Derived.Test.YtcoiialmdncpfaaGreatDoorJ15
import Derived.Test.YtcoiialmdncpfaaGreatDoorJ14
import Derived.Test.YtcoiialmdncpfaaGreatDoorJ18
import Derived.Test.YtcoiialmdncpfaaGreatDoorJ26
open Go.Proofs.Tryz
set_option maxRecDepth 100000
set_option maxHeartbeats 8000000
namespace Go.Proofs.YtcoiialmdncpfaaGreatDoor
section
open Go.RowKit Go.Lib Go.Proofs
attribute [local go_sem ↓] Go.wp_at_zero Go.wp_at_succ
attribute [local go_sem] aK aL aM aZ a6 a7 a8
theorem vH:type_of% @Array.getElem?_eq_getElem:=@Array.getElem?_eq_getElem
theorem aY.val{X:Nat->Prop}{w:World}{n:Nd}{A:Option Addr}{c:Nat}(h:aY X w n [.int .i64 n.kind,.string n.text,.slice A n.kids.length c,.int .i64 n.pos]):aq X w (.agg (nv n A c)) n:=by obtain⟨x,q,D,I,O,M,J⟩:=h.toV;simp only[vk,xu,true_and]at I;injection I with e1 _ e3;exact⟨x,q,D,by rw[e1,e3],O,M,J⟩
theorem Lp{r:d5 Nd}{n:Nd}{s1:St}(h:(r.bind fun x s2=>d5.ok (x,false) s2)=.ok (n,true) s1):False:=by
 cases r with
 |ok x s2=>have h:d5.ok (x,false) s2=.ok (n,true) s1:=h;injection h with h _;injection h with _ h;cases h
 |fail p=>cases h
 |out=>cases h
theorem Ns{F:eQ}{c:Cx}{s s1:St}{n:Nd}{bare:Bool}(h:dW F c s=.ok (n,bare) s1)(hb:bare=true):Ix n/\n.kind≠10:=by
 subst hb;unfold dW at h;simp only at h;split at h
 ·injection h with h _;injection h with h _;subst h;refine⟨?_,by simp⟩;unfold Ix tY;exact⟨fun h=>by omega,by simp,trivial⟩
 ·exfalso;split at h
  ·injection h with h _;injection h with _ h;cases h
  ·split at h
   ·injection h with h _;injection h with _ h;cases h
   ·split at h
    ·cases D:bZ F.expr c (am { s with part :=-1 })with
     |ok x s2=>
      rw[D]at h;have h:((need ⟨#[41]⟩ c s2).bind fun _ s3=>d5.ok (x,false) s3)=.ok (n,true) s1:=h;cases I:need ⟨#[41]⟩ c s2 with
      |ok u s3=>rw[I]at h;have h:d5.ok (x,false) s3=.ok (n,true) s1:=h;injection h with h _;injection h with _ h;cases h
      |fail p=>rw[I]at h;cases h
      |out=>rw[I]at h;cases h
     |fail p=>rw[D]at h;cases h
     |out=>rw[D]at h;cases h
    ·split at h
     ·exact Lp h
     ·split at h
      ·exact Lp h
      ·cases h
theorem Ag(part:R Nd)(en:ByteArray)(c:Cx):∀(g:Nat)(acc:List Nd)(s:St)(l:List Nd)(s':St),aU part en g acc c s=.ok l s'->1<=s'.at_
 |0,_,_,_,_,h=>by simp[aU]at h
 | g+1,acc,s,l,s',h=>by
  simp only[aU]at h;split at h
  ·injection h with _ h2;subst h2;exact Nat.le_add_left 1 _
  ·cases D:part c s with
   |out=>rw[D]at h;cases h
   |fail p=>rw[D]at h;cases h
   | ok n s1=>
    rw[D]at h;simp only[d5.bind_ok]at h;split at h
    ·injection h with _ h2;subst h2;exact Nat.le_add_left 1 _
    ·cases I:need ⟨#[44]⟩ c s1 with
     |out=>rw[I]at h;cases h
     |fail p=>rw[I]at h;cases h
     |ok u s2=>rw[I]at h;exact Ag part en c g (acc++[n]) s2 l s' h
theorem Lq{part:R Nd}{en:ByteArray}{c:Cx}{g:Nat}{s:St}{l:List Nd}{s':St}(h:bZ (aU part en g []) c s=.ok l s'):1<=s'.at_:=by
 unfold bZ at h;cases D:aU part en g [] c { s with head:=false }with
 |out=>rw[D]at h;cases h
 |fail p=>rw[D]at h;cases h
 |ok l1 s1=>rw[D]at h;simp only[d5.bind_ok]at h;injection h with _ h2;subst h2;show 1<=s1.at_;exact Ag part en c g [] _ _ _ D
theorem Bh:∀{l:List Nd}{n:Nd},tY l->Ix n->tY (l++[n])
 |[],n,_,h=>by unfold tY;exact⟨h,by unfold tY;trivial⟩
 |x::r,n,D,h=>by unfold tY at D;show tY (x::(r++[n]));unfold tY;exact⟨D.1,Bh D.2 h⟩
theorem CR{part:R Nd}{c:Cx}(z:∀s n s1,s.at_<=c.toks.length->part c s=.ok n s1->Ix n/\s1.at_<=c.toks.length)(en:ByteArray):∀(g:Nat)(acc:List Nd)(s:St)(l:List Nd)(s':St),s.at_<=c.toks.length->aU part en g acc c s=.ok l s'->tY acc->tY l
 |0,_,_,_,_,_,h,_=>by simp[aU]at h
 | g+1,acc,s,l,s',hs,h,x=>by
  simp only[aU]at h;split at h
  ·injection h with I _;subst I;exact x
  ·cases M:part c s with
   |out=>rw[M]at h;cases h
   |fail p=>rw[M]at h;cases h
   | ok n s1=>
    have J:=z s n s1 hs M;rw[M]at h;simp only[d5.bind_ok]at h;split at h
    ·injection h with I _;subst I;exact Bh x J.1
    ·cases D:need ⟨#[44]⟩ c s1 with
     |out=>rw[D]at h;cases h
     |fail p=>rw[D]at h;cases h
     | ok u y=>
      rw[D]at h;have O:y.at_<=c.toks.length:=by
       unfold need at D;split at D
       ·rename_i q;injection D with _ D;subst D;rcases kN s1.at_ c.toks.length with I|I
        ·exact I
        ·unfold aR NV aj at q;rw[vo I]at q;simp at q
       ·cases D
      exact CR z en g (acc++[n]) y l s' O h (Bh x J.1)
theorem Nt{F:eQ}{c:Cx}(M:∀s x s1,s.at_<=c.toks.length->F.expr c s=.ok x s1->Ix x/\s1.at_<=c.toks.length)(out:Nd)(l:List Nd){s s':St}(J:s.at_<=c.toks.length)(O:Ix out/\out.kind≠10)(D:bZ (aU (cP F) ⟨#[93]⟩ F.g []) c s=.ok l s')(y:¬ l.length=0)(hg:F.g+1<=1000000):
  Ix (.mk 22 ⟨#[]⟩ (out::l) out.pos)/\(Nd.mk 22 ⟨#[]⟩ (out::l) out.pos).kind≠10:=by
 have q:=rH D;refine⟨?_,by simp⟩;have z:tY l:=by
  unfold bZ at D;cases I:aU (cP F) ⟨#[93]⟩ F.g [] c { s with head:=false }with
  |out=>rw[I]at D;cases D
  |fail p=>rw[I]at D;cases D
  |ok l1 s1=>rw[I]at D;simp only[d5.bind_ok]at D;injection D with h1 _;subst h1;exact CR (fun s n s1 J h=>M { s with part:=s.at_ } n s1 J h) _ _ [] { s with head:=false } _ _ J I (by unfold tY;trivial)
 unfold Ix;refine⟨fun _=>⟨out,l,rfl,?_,O.2⟩,by simp only[gI];omega,?_⟩
 ·rintro rfl;exact y rfl
 ·unfold tY;exact⟨O.1,z⟩
theorem mL{E:bC}{s3:St}{w D w8 w9:World}{K P:Nat}{out:Nd}{l:List Nd}{A:Option Addr}{c:Nat}{A8:Option Addr}{c8:Nat}{ys:List Value}{b0 b1 b2 b3:Value}(kind:Int)(t:ByteArray)
  (ge:au E s3 w D)(gn:E.R<w.heap.size)(gk:aY (fun b=>(w.heap.size<=b/\b≠w.heap.size+1/\b≠K)/\b≠P) D out [.int .i64 out.kind,.string out.text,.slice A out.kids.length c,.int .i64 out.pos])
  (gg:ae (fun b=>(w.heap.size<=b/\b≠w.heap.size+1/\b≠K)/\b≠P) D l ys)(hP:K<P)(gs:P<D.heap.size)(gp:w.heap.size+2<=K)
  (O:w8.ownsRow P 41 4 (.slice A8 (1+l.length) c8) (1+l.length) ([.int .i64 out.kind,.string out.text,.slice A out.kids.length c,.int .i64 out.pos]++ys))(I:D.grownBy w8 (some P))
  (x:(Value.slice A8 (1+l.length) c8).ownBlock=some P\/(Value.slice A8 (1+l.length) c8).ownBlock=some D.heap.size)
  (J:Below w8 w8 w9)(gh:aa w9 K 41 #[b0,b1,b2,b3])(gl:aa D w.heap.size 112 #[E.R])(gi:aa D (w.heap.size+1) 41 bg):
  aa (cM w9 K (.int .i64 kind) (.string t) (.slice A8 (1+l.length) c8) (.int .i64 out.pos)) K 41 #[kind,t,.slice A8 (l.length+1) c8,out.pos] /\
  aY (fun b=>w.heap.size<=b/\b≠w.heap.size+1/\b≠K) (cM w9 K (.int .i64 kind) (.string t) (.slice A8 (1+l.length) c8) (.int .i64 out.pos)) (.mk kind t (out::l) out.pos) [.int .i64 kind,.string t,.slice A8 (out::l).length c8,.int .i64 out.pos] /\
  aa (cM w9 K (.int .i64 kind) (.string t) (.slice A8 (1+l.length) c8) (.int .i64 out.pos)) w.heap.size 112 #[E.R] /\
  aa (cM w9 K (.int .i64 kind) (.string t) (.slice A8 (1+l.length) c8) (.int .i64 out.pos)) (w.heap.size+1) 41 bg /\
  au E s3 w (cM w9 K (.int .i64 kind) (.string t) (.slice A8 (1+l.length) c8) (.int .i64 out.pos)):=by
 have gr:=I.size;have gq:=J.size;have z:=ak.of_grown (X:=fun b=>(w.heap.size<=b/\b≠w.heap.size+1/\b≠K)/\b≠P) I (fun g e hX=>by injection e with e;exact hX.2 e.symm);have gj:=((ae.cons gk gg).keep (w':=w8) z.block).mono (Y:=fun b=>w.heap.size<=b/\b≠w.heap.size+1/\b≠K) (fun b hb _=>hb.1);have gb:=wi (X:=fun b=>w.heap.size<=b/\b≠w.heap.size+1/\b≠K) (l:=out::l) O (by simp;omega) (fun g hg=>by
  rcases x with e|e<;>rw[hg]at e<;>injection e with e
  ·exact⟨by omega,by omega,by omega⟩
  ·exact⟨by omega,by omega,by omega⟩) gj
 have ga:=(gb.kept (ak.of_below (X:=fun b=>w.heap.size<=b/\b≠w.heap.size+1/\b≠K) J (fun b _ h=>h))).kept (cA (fun b hb=>hb.2.2) (.int .i64 kind) (.string t) (.slice A8 (1+l.length) c8) (.int .i64 out.pos));have hn:=aq.of_slice ga kind t out.pos;have gd:au E s3 w w9:=(ge.grownNew I (by omega) (by omega)).step J;(have M:∀{g:Nat}{ty:TypeId}{C:Array Value},g<K->aa D g ty C->aa (cM w9 K (.int .i64 kind) (.string t) (.slice A8 (1+l.length) c8) (.int .i64 out.pos)) g ty C:=by intro g ty C hgK hb;have h9:=(hb.grown I).below J (by have:=hb.lt;omega);exact(((h9.far (p:=⟨K,0,none⟩) (by show g≠K;omega) _).far (p:=⟨K,1,none⟩) (by show g≠K;omega) _).far (p:=⟨K,2,none⟩) (by show g≠K;omega) _).far (p:=⟨K,3,none⟩) (by show g≠K;omega) _);refine⟨?_,?_,M (by omega) gl,M (by omega) gi,dI gd (by omega) (by omega) _ _ _ _⟩
 ·have h:=cJ gh (.int .i64 kind) (.string t) (.slice A8 (1+l.length) c8) (.int .i64 out.pos);generalize cM w9 K (.int .i64 kind) (.string t) (.slice A8 (1+l.length) c8) (.int .i64 out.pos)=W at h |-;rw[Nat.add_comm l.length 1];exact h
 obtain⟨A9,c9,y,q,h1,h2,h3⟩:=hn;injection q with q;have q:=qD Array.toList q;simp only[vk]at q;obtain⟨-,-,gm,-,-⟩:=q;injection gm with e1 e2 e3;subst e1 e3;unfold aY;exact⟨_,_,y,rfl,h1,h2,h3⟩
theorem CS (E:bC)(F:eQ)(hF:mC E F)(jr:EX E)(kl:∀s x s1,s.at_<=E.c.toks.length->F.expr E.c s=.ok x s1->Ix x/\s1.at_<=E.c.toks.length)(ko:F.g+1<=1000000):dp E (eY F) 312:=by
 intro w s h hno;generalize hres:eY F E.c s=res at *;have hy:=hid (show(dW F E.c s).bind (fun x s1=>aV F F.g x.1 x.2 E.c s1)=res from hres);have je:=hid hno;have hh:=h.lt;clear hres hno;have jw:aa ((w.alloc (.cells #[E.R] 112)).alloc (.cells bg 41)) w.heap.size 112 #[E.R]:=(aa.new w _ _).alloc _;have j8:aa ((w.alloc (.cells #[E.R] 112)).alloc (.cells bg 41)) (w.heap.size+1) 41 bg:=aa.new_at (by simp) _ _;have jb:=((au.refl h).alloc (.cells #[E.R] 112)).alloc (.cells bg 41);(have kz:((w.alloc (.cells #[E.R] 112)).alloc (.cells bg 41)).heap.size=w.heap.size+2:=by simp);(go_enter func312,ntmps312);(go_upto_region 1 with fail);change Code.wp _ _ _ _ ((w.alloc (.cells #[E.R] 112)).alloc (.cells bg 41));generalize(w.alloc (.cells #[E.R] 112)).alloc (.cells bg 41)=w0 at *;have b0:=aw jw;go_wp2_with fail;cases hP:dW F E.c s with
 |out=>exact absurd hy.out.symm (by rw[hP];exact je.out)
 |fail q=>refine(tq E F hF jr _ s jb.rd (by rw[hP];exact nofun)).mono ?_;rw[hP];rintro e w1⟨rfl,kh⟩;unfold ag;exact⟨rfl,af (by rw[<-hy.out,hP];rfl) jb.gr kh⟩
 | ok x s1=>
  obtain⟨n,bare⟩:=x;have jt:bare=true->Ix n/\n.kind≠10:=Ns hP;have HE:Hid (aV F F.g n bare E.c s1=res):=hid (by rw[<-hy.out,hP];rfl);refine(tq E F hF jr _ s jb.rd (by rw[hP];exact nofun)).mono ?_;rw[hP];rintro e w1⟨⟨v,rfl,hv⟩,h6⟩;obtain⟨A1,c1,rfl,jo⟩:=hv.toC;have ke:=h6.gr.size;have kb:=(jw.grown h6.gr).alloc (.cells (nv n A1 c1) 41);have j7:=(j8.grown h6.gr).alloc (.cells (nv n A1 c1) 41);have j5:=(jb.trans h6).alloc (.cells (nv n A1 c1) 41);have j6:=aa.new w1 41 (nv n A1 c1);have jo:=jo.mono (Y:=fun b=>w.heap.size<=b/\b≠w.heap.size+1/\b≠w1.heap.size) fun b hb hlt=>⟨by omega,by omega,by omega⟩;have ka:=(jo.keep (w':=w1.alloc (.cells (nv n A1 c1) 41)) fun b _ hlt=>gS w1 _ b hlt);(go_upto_region 3 with fail);change Code.wp _ _ _ _ (w1.alloc (.cells (nv n A1 c1) 41));generalize hKK:w1.heap.size=K at *;generalize w1.alloc (.cells (nv n A1 c1) 41)=w2 at *;(have k2:K≠w.heap.size+1:=by omega);(have g5:K≠E.R:=by omega);(have h5:w.heap.size+2<=K:=by omega);clear jo hv hP hy jw j8 jb h6 b0 ke hKK;go_loopg [4] F.g (fun gg u4 wr=>∃(out:Nd)(bare:Bool)(z:St)(A:Option Addr)(c:Nat),u4=.bool bare/\aa wr K 41 (nv out A c) /\
   aY (fun b=>w.heap.size<=b/\b≠w.heap.size+1/\b≠K) wr out [.int .i64 out.kind,.string out.text,.slice A out.kids.length c,.int .i64 out.pos]/\aa wr w.heap.size 112 #[E.R]/\aa wr (w.heap.size+1) 41 bg /\
   au E z w wr/\aV F gg out bare E.c z=res/\(bare=true->Ix out/\out.kind≠10))
  case atStart=>exact⟨n,bare,s1,A1,c1,rfl,j6,ka,kb,j7,j5,HE.out,jt⟩
  case round=>
   obtain⟨out,bare,z,A,c,rfl,hK,hC,hB,hG,hM,hr,j2⟩:=hrel;(have jp:w.heap.size≠E.R:=by omega);cases gk with
   |zero=>exact absurd hr.symm (by rw[aV];exact je.out)
   | succ g1=>
    have HR:=hid hr;clear hr HE j6 ka kb j7 j5;have b0:=aw hB;go_wp2_with fail;cases hA:aR E.c z ⟨#[40]⟩with
    | true=>
     refine(aS E z _ _ hM.rd hA).mono ?_;rintro e J⟨rfl,gb⟩;have y:=hK.grown gb.gr (fun e=>g5 (by injection e));have gv:=hC.keep (w':=J) (ak.of_grown (X:=fun b=>w.heap.size<=b/\b≠w.heap.size+1/\b≠K) gb.gr (fun g e hX=>by injection e with e;subst e;have hX:w.heap.size<=E.R:=hX.1;omega)).block;have O:=hB.grown gb.gr;have gu:=hG.grown gb.gr;have M:=hM.trans gb;have HE:=hid (show(bZ (aU F.expr ⟨#[41]⟩ F.g []) E.c (am z)).bind (fun l s3=>aV F g1 (.mk 21 ⟨#[]⟩ (out::l) out.pos) false E.c s3)=res by rw[<-HR.out,aV];simp only[hA,kS]);clear hK hC hB hG hM gb b0 hA HR;have c0:=aw O;obtain⟨x0,x1,x2,x3,hs,hq,hp,ho⟩:=ah y;go_wp2_with fail;(have hj:∀a w,(callFunc 316 a).run prog w=.ok (.enter 316 a) w:=fun a w=>by kernel_rfl);have jf:=hid hj;clear hj;let SS:World->Prop:=fun w'=>w'.cell? ⟨K,0,none⟩=some (.int .i64 out.kind)/\w'.cell? ⟨K,1,none⟩=some (.string out.text)/\w'.cell? ⟨K,2,none⟩=some (.slice A out.kids.length c)/\w'.cell? ⟨K,3,none⟩=some (.int .i64 out.pos)/\w'.cell? ⟨w,0,none⟩=some (.pointer (some ⟨E.R,0,none⟩));have ssOf:∀W,aa W K 41 (nv out A c)->aa W w.heap.size 112 #[E.R]->SS W:=fun W h1 h2=>⟨(ah h1).1,(ah h1).2.1,(ah h1).2.2.1,(ah h1).2.2.2.1,aw h2⟩;have SSO:=hid ssOf;have hn:SS J.drew:=ssOf _ y.drew O.drew;clear ssOf;have hl:=y.lt;cases hQ:bZ (aU F.expr ⟨#[41]⟩ F.g []) E.c (am z)with
     |out=>exact absurd HE.out.symm (by rw[hQ];exact je.out)
     | fail q=>
      have HF:Hid (res=.fail q):=hid (by rw[<-HE.out,hQ];rfl);have HC:=hid (fun W(hr:aH E W (am z))(hc:W.cell? ⟨w,0,none⟩=some (.pointer (some ⟨E.R,0,none⟩)))=>lD E 316 #[] #[w] (aU F.expr ⟨#[41]⟩ F.g []) (am z) W hr jf.out (yV E F hF w.heap.size W hc jp) (by rw[hQ];exact nofun));rw[hQ]at HC;clear x0 x1 x2 x3 c0;refine iP 9 (S:=SS) (by kernel_rfl) hn ?_;intro D;(refine yh 0 [1,8,9] D ?_);(refine yh 1 [8,9] D ?_);(refine yh 2 [3,7,8,9] D ?_);(refine yh 4 [6,7,8,9] D ?_);(refine yh 5 [6,7,8,9] D ?_);(refine aP (rs:=[3,6]) (by kernel_rfl) (by simp) ?_;refine(co.cons rfl (fun Z hZ=>?_) (co.cons rfl (fun Z hZ=>?_) co.nil)))
      ·go_simp;(refine hZ.out _ _ (.inl ?_) (fun D=>?_))
       ·exact SSO.out _ (y.drew.alloc _) (O.drew.alloc _)
       (clear hZ Z;replace D:=D.resolve_right (by decide));(refine aP (rs:=[6]) (by kernel_rfl) (by simp) ?_;refine(co.cons rfl (fun Z hZ=>?_) co.nil));go_simp;(go_at_call 315);refine(HC.out _ (M.drew.alloc _).rd (aw (O.drew.alloc _))).mono ?_;rintro e w7⟨rfl,g0⟩;unfold ag;exact⟨rfl,af HF.out (M.drew.alloc _).gr g0⟩
      ·go_simp;(go_at_call 315);refine(HC.out _ M.drew.rd (aw O.drew)).mono ?_;rintro e w7⟨rfl,g0⟩;unfold ag;exact⟨rfl,af HF.out M.drew.gr g0⟩
     | ok l s3=>
      have g9:Hid (aV F g1 (.mk 21 ⟨#[]⟩ (out::l) out.pos) false E.c s3=res):=hid (by rw[<-HE.out,hQ];rfl);have HC:=hid (fun W(hr:aH E W (am z))(hc:W.cell? ⟨w,0,none⟩=some (.pointer (some ⟨E.R,0,none⟩)))=>lD E 316 #[] #[w] (aU F.expr ⟨#[41]⟩ F.g []) (am z) W hr jf.out (yV E F hF w.heap.size W hc jp) (by rw[hQ];exact nofun));rw[hQ]at HC;have kf:=rH hQ;have j3:=hF.g;obtain⟨i0,hi,ji,jh,jg⟩:=qr pw;clear x0 x1 x2 x3 c0 HE hQ;refine iP 9 (S:=SS) (by kernel_rfl) hn ?_;intro D;(refine yh 0 [1,8,9] D ?_);(refine yh 1 [8,9] D ?_);(refine yh 2 [3,7,8,9] D ?_);(refine yh 4 [6,7,8,9] D ?_);(refine yh 5 [6,7,8,9] D ?_);(refine aP (rs:=[3,6]) (by kernel_rfl) (by simp) ?_;refine(co.cons rfl (fun Z hZ=>?_) (co.cons rfl (fun Z hZ=>?_) co.nil)))
      ·go_simp;(refine hZ.out _ _ (.inl ?_) (fun D=>?_))
       ·exact SSO.out _ (y.drew.alloc _) (O.drew.alloc _)
       (clear hZ Z;replace D:=D.resolve_right (by decide));(refine aP (rs:=[6]) (by kernel_rfl) (by simp) ?_;refine(co.cons rfl (fun Z hZ=>?_) co.nil));go_simp;(go_at_call 315);refine(HC.out _ (M.drew.alloc _).rd (aw (O.drew.alloc _))).mono ?_;rintro e w7⟨⟨v7,rfl,ha⟩,I⟩;obtain⟨A7,c7,ys,rfl,jq,hf,gw⟩:=ha;have gm:=(y.drew.alloc (.cells (nv out A c) 41)).grown I.gr (fun e=>g5 (by injection e));have ge:=(O.drew.alloc (.cells (nv out A c) 41)).grown I.gr;have g7:=(gu.drew.alloc (.cells (nv out A c) 41)).grown I.gr;have g3:=(aa.new J.drew 41 (nv out A c)).grown I.gr (fun e=>by injection e with e;have e:J.heap.size=E.R:=e;omega);have g4:=(M.drew.alloc (.cells (nv out A c) 41)).trans I;(have jz:J.heap.size+1<=w7.heap.size:=by have:=I.gr.size;simpa using this);have g8:=((gv.mono (Y:=fun b=>(w.heap.size<=b/\b≠w.heap.size+1/\b≠K)/\b≠J.heap.size) fun b hb hlt=>⟨hb,by omega⟩).keep (w:=J) (w':=J.drew.alloc (.cells (nv out A c) 41)) fun b _ hlt=>gS J.drew _ b hlt).keep (w':=w7) (ak.of_grown (X:=fun b=>(w.heap.size<=b/\b≠w.heap.size+1/\b≠K)/\b≠J.heap.size) I.gr (fun g e hX=>by injection e with e;subst e;have hX:w.heap.size<=E.R:=hX.1.1;omega)).block;(have jc:=gw.mono (Y:=fun b=>(w.heap.size<=b/\b≠w.heap.size+1/\b≠K)/\b≠J.heap.size) fun b hb _=>by(have hb:J.heap.size+1<=b:=by simpa using hb);exact⟨⟨by omega,by omega,by omega⟩,by omega⟩);have he:=oO hf (by omega);have hg:=iL gw;have g6:K<J.heap.size:=hl;(have g2:J.heap.size<w7.heap.size:=by omega);clear I gw hf;(refine hZ.out _ _ (.inl ?_) (fun D=>?_))
       ·exact SSO.out _ gm ge
       (clear hZ Z;replace D:=D.resolve_right (by decide));(refine aP (rs:=[7]) (by kernel_rfl) (by simp) ?_;refine(co.cons rfl (fun Z hZ=>?_) co.nil));refine dt _ (by rfl) (.tmp 20) (.tmp 23) 39 (by rfl) J.heap.size 41 i0 _ 4 56 underlying39 hi ji jh jg (by rfl) (by omega) (.slice (some ⟨J,0,none⟩) 1 1) 1 [.int .i64 out.kind,.string out.text,.slice A out.kids.length c,.int .i64 out.pos] (by rfl) (oP g3 (gA _)) w7.heap.size A7 l.length c7 ys (by rfl) he hg (by unfold maxLen;omega) (by omega) (by omega) ?_;intro v8 w8 hown8 hg8 hat8;obtain⟨A8,c8,rfl,j4⟩:=rI hown8;have gt:=gm.grown hg8 (fun e=>by have e:some K=some J.heap.size:=e;injection e with e;omega);have gy:=ge.grown hg8 (fun e=>by have e:some w.heap.size=some J.heap.size:=e;injection e with e;omega);(refine hZ.out _ _ (.inl ?_) (fun D=>?_))
       ·exact SSO.out _ gt gy
       (clear hZ Z;replace D:=D.resolve_right (by decide));(refine aP (rs:=[8]) (by kernel_rfl) (by simp) ?_;refine(co.cons rfl (fun Z hZ=>?_) co.nil));go_simp;(go_at_call 91);refine(aI _ _ _ _ _ ⟨_,_,_,rfl⟩).mono ?_;rintro e w9⟨rfl,gd⟩;have ga:=gt.bl gd;have gx:=gy.bl gd;(refine hZ.out _ _ (.inl ?_) (fun D=>?_))
       ·exact SSO.out _ ga gx
       (clear hZ Z;replace D:=D.resolve_right (by decide));(refine aP (rs:=[9]) (by kernel_rfl) (by simp) ?_;refine(co.cons rfl (fun Z hZ=>?_) co.nil));obtain⟨x0,x1,x2,x3,hs,hq,hp,ho⟩:=ah ga;go_simp;(refine hZ.out _ _ (.inr rfl) (fun _=>?_);clear hZ Z;refine iO (by kernel_rfl) ?_ _);have hN:=mL 21 ⟨#[]⟩ g4 hh g8 jc g6 g2 h5 hown8 hg8 hat8 gd ga ge g7;go_wp2_with fail;go_roundg g1
       case measure=>omega
       case rel=>exact⟨.mk 21 ⟨#[]⟩ (out::l) out.pos,false,s3,A8,c8,rfl,hN.1,hN.2.1,hN.2.2.1,hN.2.2.2.1,hN.2.2.2.2,g9.out,fun h=>by cases h⟩
      ·go_simp;(go_at_call 315);refine(HC.out _ M.drew.rd (aw O.drew)).mono ?_;rintro e w6⟨⟨v7,rfl,ha⟩,I⟩;obtain⟨A7,c7,ys,rfl,jq,hf,gw⟩:=ha;have gh:=y.drew.grown I.gr (fun e=>g5 (by injection e));have gp:=O.drew.grown I.gr;have gi:=gu.drew.grown I.gr;have gl:=M.drew.trans I;have kd:J.heap.size<=w6.heap.size:=I.gr.size;have gn:=gv.keep (w:=J) (w':=w6) (ak.of_grown (w:=J.drew) (X:=fun b=>w.heap.size<=b/\b≠w.heap.size+1/\b≠K) I.gr (fun g e hX=>by injection e with e;subst e;have hX:w.heap.size<=E.R:=hX.1;omega)).block;have hg:=iL gw;(refine hZ.out _ _ (.inl ?_) (fun D=>?_))
       ·exact SSO.out _ gh gp
       (clear hZ Z;replace D:=D.resolve_right (by decide));(refine aP (rs:=[3]) (by kernel_rfl) (by simp) ?_;refine(co.cons rfl (fun Z hZ=>?_) co.nil));go_simp;have gm:=gh.alloc (.cells (nv out A c) 41);have ge:=gp.alloc (.cells (nv out A c) 41);have g7:=gi.alloc (.cells (nv out A c) 41);have g4:=gl.alloc (.cells (nv out A c) 41);have g3:=aa.new w6 41 (nv out A c);have g8:=(gn.mono (Y:=fun b=>(w.heap.size<=b/\b≠w.heap.size+1/\b≠K)/\b≠w6.heap.size) fun b hb hlt=>⟨hb,by omega⟩).keep (w':=w6.alloc (.cells (nv out A c) 41)) fun b _ hlt=>gS w6 _ b hlt;have jc:=(gw.mono (Y:=fun b=>(w.heap.size<=b/\b≠w.heap.size+1/\b≠K)/\b≠w6.heap.size) fun b hb hlt=>by have hb:J.heap.size<=b:=hb;exact⟨⟨by omega,by omega,by omega⟩,by omega⟩).keep (w':=w6.alloc (.cells (nv out A c) 41)) fun b _ hlt=>gS w6 _ b hlt;have he:=oO (hf.keep (w':=w6.alloc (.cells (nv out A c) 41)) fun b _ hlt=>gS w6 _ b hlt) (by omega);(have g6:K<w6.heap.size:=by omega);(have g2:w6.heap.size<(w6.alloc (.cells (nv out A c) 41)).heap.size:=by simp);(refine hZ.out _ _ (.inl ?_) (fun D=>?_))
       ·exact SSO.out _ gm ge
       (clear hZ Z;replace D:=D.resolve_right (by decide));clear I gw hf gh gp gi gl gn;generalize w6.heap.size=P at *;generalize w6.alloc (.cells (nv out A c) 41)=w7 at *;(refine aP (rs:=[7]) (by kernel_rfl) (by simp) ?_;refine(co.cons rfl (fun Z hZ=>?_) co.nil));refine dt _ (by rfl) (.tmp 20) (.tmp 23) 39 (by rfl) P 41 i0 _ 4 56 underlying39 hi ji jh jg (by rfl) (by omega) (.slice (some ⟨P,0,none⟩) 1 1) 1 [.int .i64 out.kind,.string out.text,.slice A out.kids.length c,.int .i64 out.pos] (by rfl) (oP g3 (gA _)) w7.heap.size A7 l.length c7 ys (by rfl) he hg (by unfold maxLen;omega) (by omega) (by omega) ?_;intro v8 w8 hown8 hg8 hat8;obtain⟨A8,c8,rfl,j4⟩:=rI hown8;have gt:=gm.grown hg8 (fun e=>by have e:some K=some P:=e;injection e with e;omega);have gy:=ge.grown hg8 (fun e=>by have e:some w.heap.size=some P:=e;injection e with e;omega);(refine hZ.out _ _ (.inl ?_) (fun D=>?_))
       ·exact SSO.out _ gt gy
       (clear hZ Z;replace D:=D.resolve_right (by decide));(refine aP (rs:=[8]) (by kernel_rfl) (by simp) ?_;refine(co.cons rfl (fun Z hZ=>?_) co.nil));go_simp;(go_at_call 91);refine(aI _ _ _ _ _ ⟨_,_,_,rfl⟩).mono ?_;rintro e w9⟨rfl,gd⟩;have ga:=gt.bl gd;have gx:=gy.bl gd;(refine hZ.out _ _ (.inl ?_) (fun D=>?_))
       ·exact SSO.out _ ga gx
       (clear hZ Z;replace D:=D.resolve_right (by decide));(refine aP (rs:=[9]) (by kernel_rfl) (by simp) ?_;refine(co.cons rfl (fun Z hZ=>?_) co.nil));obtain⟨x0,x1,x2,x3,hs,hq,hp,ho⟩:=ah ga;go_simp;(refine hZ.out _ _ (.inr rfl) (fun _=>?_);clear hZ Z;refine iO (by kernel_rfl) ?_ _);have hN:=mL 21 ⟨#[]⟩ g4 hh g8 jc g6 g2 h5 hown8 hg8 hat8 gd ga ge g7;go_wp2_with fail;go_roundg g1
       case measure=>omega
       case rel=>exact⟨.mk 21 ⟨#[]⟩ (out::l) out.pos,false,s3,A8,c8,rfl,hN.1,hN.2.1,hN.2.2.1,hN.2.2.2.1,hN.2.2.2.2,g9.out,fun h=>by cases h⟩
    | false=>
     refine(aW E z _ _ hM.rd hA).mono ?_;rintro e J⟨rfl,h3⟩;have y:=hK.bl h3.bel;have gv:=hC.keep (w':=J) fun b _ hlt=>h3.bel.block b hlt;have O:=hB.bl h3.bel;have gu:=hG.bl h3.bel;have M:=hM.trans h3.moved;clear hK hC hB hG hM h3 b0;have b0:=aw O;go_wp2_with fail;cases hS:aR E.c z ⟨#[91]⟩with
     | true=>
      refine(aS E z _ _ M.rd hS).mono ?_;rintro e w3'⟨rfl,gb⟩;have hm:=y.grown gb.gr (fun e=>g5 (by injection e));have hw:=gv.keep (w':=w3') (ak.of_grown (X:=fun b=>w.heap.size<=b/\b≠w.heap.size+1/\b≠K) gb.gr (fun g e hX=>by injection e with e;subst e;have hX:w.heap.size<=E.R:=hX.1;omega)).block;have gz:=O.grown gb.gr;have hu:=gu.grown gb.gr;have gs:=M.trans gb;have HE:=hid (show(bZ (aU (cP F) ⟨#[93]⟩ F.g []) E.c (am z)).bind (fun l s3=>if l.length=0 then .fail (aj E.c (s3.at_-1)).pos else aV F g1 (.mk 22 ⟨#[]⟩ (out::l) out.pos) bare E.c s3)=res by rw[<-HR.out,aV];simp only[hA,hS,gX,kK,kS]);clear y gv O gu M gb b0 hA hS HR;have b0:=aw gz;(have hj:∀a w,(callFunc 317 a).run prog w=.ok (.enter 317 a) w:=fun a w=>by kernel_rfl);have jf:=hid hj;clear hj;go_wp2_with fail;cases hQ:bZ (aU (cP F) ⟨#[93]⟩ F.g []) E.c (am z)with
      |out=>exact absurd HE.out.symm (by rw[hQ];exact je.out)
      |fail q=>have HF:Hid (res=.fail q):=hid (by rw[<-HE.out,hQ];rfl);refine(lD E 317 #[] #[w] (aU (cP F) ⟨#[93]⟩ F.g []) (am z) _ gs.rd jf.out (yW E F hF w.heap.size _ (aw gz) jp) (by rw[hQ];exact nofun)).mono ?_;rw[hQ];rintro e w7⟨rfl,g0⟩;unfold ag;exact⟨rfl,af HF.out gs.gr g0⟩
      | ok l s3=>
       have jx:=hid (show(if l.length=0 then .fail (aj E.c (s3.at_-1)).pos else aV F g1 (.mk 22 ⟨#[]⟩ (out::l) out.pos) bare E.c s3)=res by rw[<-HE.out,hQ];rfl);have kf:=rH hQ;have j3:=ko;have j0:=hid gs.rd.le;have kr:=Lq hQ;refine(lD E 317 #[] #[w] (aU (cP F) ⟨#[93]⟩ F.g []) (am z) _ gs.rd jf.out (yW E F hF w.heap.size _ (aw gz) jp) (by rw[hQ];exact nofun)).mono ?_;rw[hQ];rintro e J⟨⟨v7,rfl,ha⟩,I⟩;obtain⟨A7,c7,ys,rfl,jq,hf,gw⟩:=ha;have y:=hm.grown I.gr (fun e=>g5 (by injection e));have gv:=hw.keep (w':=J) (ak.of_grown (X:=fun b=>w.heap.size<=b/\b≠w.heap.size+1/\b≠K) I.gr (fun g e hX=>by injection e with e;subst e;have hX:w.heap.size<=E.R:=hX.1;omega)).block;have O:=gz.grown I.gr;have gu:=hu.grown I.gr;have M:=gs.trans I;have ky:=I.gr.size;have ku:=hm.lt;clear hm hw gz hu gs I b0 HE;have b0:=aw O;by_cases h7:l.length=0
       ·have HF:=hid (show res=.fail (ar E.c { s3 with at_:=s3.at_-1 })by rw[<-jx.out,gL h7];rfl);obtain⟨y0,y1,y2,y3,y4,yf⟩:=M.rd.cells;have kv:=yf 1;have k0:=M.rd.most;have ks:=M.rd.le;(have k1:s3.at_<E.c.toks.length+1:=by omega);have q1:IntKind.i64.wrap ((s3.at_:Int)-1)=(s3.at_:Int)-1:=gQ _ (by omega);have ju:=M.setAt (s3.at_-1) (by omega);rw[show((s3.at_-1:Nat):Int)=(s3.at_:Int)-1 by omega]at ju;have kp:=O.far (p:=⟨E.R,1,none⟩) (by show w.heap.size≠E.R;omega) (.int .i64 ((s3.at_:Int)-1));have b1:=aw kp;(have j1:((l.length:Int)==0)=true:=by rw[kI];omega);clear yf h7;go_wp2_with fail;refine(dh E _ _ ju.rd).mono ?_;rintro e w5⟨rfl,ki⟩;unfold ag;exact⟨rfl,af HF.out ju.gr (ac _ ki)⟩
       ·have g9:Hid (aV F g1 (.mk 22 ⟨#[]⟩ (out::l) out.pos) bare E.c s3=res):=hid (by rw[<-jx.out,gE h7]);(have j1:((l.length:Int)==0)=false:=by rw[gD];omega);have kq:=hid (fun hb:bare=true=>Nt kl out l j0.out (j2 hb) hQ h7 j3);clear jx h7 hQ;obtain⟨i0,hi,ji,jh,jg⟩:=qr pw;go_wp2_with fail;let SS:World->Prop:=fun w'=>w'.cell? ⟨K,0,none⟩=some (.int .i64 out.kind)/\w'.cell? ⟨K,1,none⟩=some (.string out.text)/\w'.cell? ⟨K,2,none⟩=some (.slice A out.kids.length c)/\w'.cell? ⟨K,3,none⟩=some (.int .i64 out.pos)/\w'.cell? ⟨w,0,none⟩=some (.pointer (some ⟨E.R,0,none⟩));have ssOf:∀W,aa W K 41 (nv out A c)->aa W w.heap.size 112 #[E.R]->SS W:=fun W h1 h2=>⟨(ah h1).1,(ah h1).2.1,(ah h1).2.2.1,(ah h1).2.2.2.1,aw h2⟩;have SSO:=hid ssOf;have hn:SS J.drew:=ssOf _ y.drew O.drew;clear ssOf;have hl:=y.lt;refine iP 7 (S:=SS) (by kernel_rfl) hn ?_;intro D;(refine yh 0 [1,6,7] D ?_);(refine yh 1 [6,7] D ?_);(refine yh 2 [3,5,6,7] D ?_);(refine yh 4 [5,6,7] D ?_);(refine aP (rs:=[3]) (by kernel_rfl) (by simp) ?_;refine(co.cons rfl (fun Z hZ=>?_) co.nil));go_simp;have gm:=(y.alloc (.cells (nv out A c) 41)).drew;have ge:=(O.alloc (.cells (nv out A c) 41)).drew;have g7:=(gu.alloc (.cells (nv out A c) 41)).drew;have g4:=(M.alloc (.cells (nv out A c) 41)).drew;have g3:=(aa.new J 41 (nv out A c)).drew;have g8:=(gv.mono (Y:=fun b=>(w.heap.size<=b/\b≠w.heap.size+1/\b≠K)/\b≠J.heap.size) fun b hb hlt=>⟨hb,by omega⟩).keep (w:=J) (w':=(J.alloc (.cells (nv out A c) 41)).drew) fun b _ hlt=>gS J _ b hlt;have jc:=(gw.mono (Y:=fun b=>(w.heap.size<=b/\b≠w.heap.size+1/\b≠K)/\b≠J.heap.size) fun b hb hlt=>⟨⟨by omega,by omega,by omega⟩,by omega⟩).keep (w:=J) (w':=(J.alloc (.cells (nv out A c) 41)).drew) fun b _ hlt=>gS J _ b hlt;have he:=oO (hf.keep (w:=J) (w':=(J.alloc (.cells (nv out A c) 41)).drew) fun b _ hlt=>gS J _ b hlt) (by omega);have hg:=iL gw;have g6:K<J.heap.size:=hl;(have g2:J.heap.size<((J.alloc (.cells (nv out A c) 41)).drew).heap.size:=by simp);(refine hZ.out _ _ (.inl ?_) (fun D=>?_))
        ·exact SSO.out _ gm ge
        (clear hZ Z;replace D:=D.resolve_right (by decide));clear gw hf gv gu M y O b0 hn;generalize(J.alloc (.cells (nv out A c) 41)).drew=w7 at *;(refine aP (rs:=[5]) (by kernel_rfl) (by simp) ?_;refine(co.cons rfl (fun Z hZ=>?_) co.nil));refine dt _ (by rfl) (.tmp 47) (.tmp 48) 39 (by rfl) J.heap.size 41 i0 _ 4 56 underlying39 hi ji jh jg (by rfl) (by omega) (.slice (some ⟨J,0,none⟩) 1 1) 1 [.int .i64 out.kind,.string out.text,.slice A out.kids.length c,.int .i64 out.pos] (by rfl) (oP g3 (gA _)) w7.heap.size A7 l.length c7 ys (by rfl) he hg (by unfold maxLen;omega) (by omega) (by omega) ?_;intro v8 w8 hown8 hg8 hat8;obtain⟨A8,c8,rfl,j4⟩:=rI hown8;have gt:=gm.grown hg8 (fun e=>by have e:some K=some J.heap.size:=e;injection e with e;omega);have gy:=ge.grown hg8 (fun e=>by have e:some w.heap.size=some J.heap.size:=e;injection e with e;omega);(refine hZ.out _ _ (.inl ?_) (fun D=>?_))
        ·exact SSO.out _ gt gy
        (clear hZ Z;replace D:=D.resolve_right (by decide));(refine aP (rs:=[6]) (by kernel_rfl) (by simp) ?_;refine(co.cons rfl (fun Z hZ=>?_) co.nil));go_simp;(go_at_call 91);refine(aI _ _ _ _ _ ⟨_,_,_,rfl⟩).mono ?_;rintro e w9⟨rfl,gd⟩;have ga:=gt.bl gd;have gx:=gy.bl gd;(refine hZ.out _ _ (.inl ?_) (fun D=>?_))
        ·exact SSO.out _ ga gx
        (clear hZ Z;replace D:=D.resolve_right (by decide));(refine aP (rs:=[7]) (by kernel_rfl) (by simp) ?_;refine(co.cons rfl (fun Z hZ=>?_) co.nil));obtain⟨x0,x1,x2,x3,hs,hq,hp,ho⟩:=ah ga;go_simp;(refine hZ.out _ _ (.inr rfl) (fun _=>?_);clear hZ Z;refine iO (by kernel_rfl) ?_ _);have hN:=mL 22 ⟨#[]⟩ g4 hh g8 jc g6 g2 h5 hown8 hg8 hat8 gd ga ge g7;go_wp2_with fail;go_roundg g1
        case measure=>omega
        case rel=>exact⟨.mk 22 ⟨#[]⟩ (out::l) out.pos,bare,s3,A8,c8,rfl,hN.1,hN.2.1,hN.2.2.1,hN.2.2.2.1,hN.2.2.2.2,g9.out,kq.out⟩
     | false=>
      refine(aW E z _ _ M.rd hS).mono ?_;rintro e w4⟨rfl,h0⟩;have hm:=y.bl h0.bel;have hw:=gv.keep (w':=w4) fun b _ hlt=>h0.bel.block b hlt;have gz:=O.bl h0.bel;have hu:=gu.bl h0.bel;have gs:=M.trans h0.moved;clear y gv O gu M h0 b0;have b0:=aw gz;go_wp2_with fail;cases hD:aR E.c z ⟨#[46]⟩with
      | true=>
       refine(aS E z _ _ gs.rd hD).mono ?_;rintro e J⟨rfl,gb⟩;have y:=hm.grown gb.gr (fun e=>g5 (by injection e));have gv:=hw.keep (w':=J) (ak.of_grown (X:=fun b=>w.heap.size<=b/\b≠w.heap.size+1/\b≠K) gb.gr (fun g e hX=>by injection e with e;subst e;have hX:w.heap.size<=E.R:=hX.1;omega)).block;have O:=gz.grown gb.gr;have gu:=hu.grown gb.gr;have M:=gs.trans gb;have HE:=hid (show(bV E.c (am z)).bind (fun x s3=>aV F g1 (.mk 23 x [out] out.pos) false E.c s3)=res by rw[<-HR.out,aV];simp only[hA,hS,hD,gX,kK,kS]);clear hm hw gz hu gs gb b0 hA hS hD HR;have c0:=aw O;obtain⟨x0,x1,x2,x3,hs,hq,hp,ho⟩:=ah y;go_wp2_with fail;let SS:World->Prop:=fun w'=>w'.cell? ⟨K,0,none⟩=some (.int .i64 out.kind)/\w'.cell? ⟨K,1,none⟩=some (.string out.text)/\w'.cell? ⟨K,2,none⟩=some (.slice A out.kids.length c)/\w'.cell? ⟨K,3,none⟩=some (.int .i64 out.pos)/\w'.cell? ⟨w,0,none⟩=some (.pointer (some ⟨E.R,0,none⟩));have ssOf:∀W,aa W K 41 (nv out A c)->aa W w.heap.size 112 #[E.R]->SS W:=fun W h1 h2=>⟨(ah h1).1,(ah h1).2.1,(ah h1).2.2.1,(ah h1).2.2.2.1,aw h2⟩;have SSO:=hid ssOf;have hn:SS J.drew:=ssOf _ y.drew O.drew;clear ssOf;have hl:=y.lt;clear x0 x1 x2 x3 c0 hs hq hp ho;by_cases h8:(aj E.c (am z).at_).kind=1
       case neg=>
        have HF:=hid (show res=.fail (ar E.c (am z))by rw[<-HE.out,bV,gE h8];rfl);have HC:=hid (fun W(hr:aH E W (am z))=>lj E (am z) W hr h8);refine iP 7 (S:=SS) (by kernel_rfl) hn ?_;intro D;(refine yh 0 [1,6,7] D ?_);(refine yh 1 [6,7] D ?_);(refine yh 2 [3,6,7] D ?_);(refine yh 4 [5,6,7] D ?_);(refine aP (rs:=[3,5]) (by kernel_rfl) (by simp) ?_;refine(co.cons rfl (fun Z hZ=>?_) (co.cons rfl (fun Z hZ=>?_) co.nil)))
        ·go_simp;(go_at_call 92);refine(HC.out _ M.drew.rd).mono ?_;rintro e w7⟨rfl,g0⟩;unfold ag;exact⟨rfl,af HF.out M.drew.gr (ac _ g0)⟩
        ·go_simp;(refine hZ.out _ _ (.inl ?_) (fun D=>?_))
         ·exact SSO.out _ (y.drew.alloc _) (O.drew.alloc _)
         (clear hZ Z;replace D:=D.resolve_right (by decide));(refine aP (rs:=[3]) (by kernel_rfl) (by simp) ?_;refine(co.cons rfl (fun Z hZ=>?_) co.nil));go_simp;(go_at_call 92);refine(HC.out _ (M.drew.alloc _).rd).mono ?_;rintro e w7⟨rfl,g0⟩;unfold ag;exact⟨rfl,af HF.out (M.drew.alloc _).gr (ac _ g0)⟩
       case pos=>
        have g9:Hid (aV F g1 (.mk 23 (aj E.c (am z).at_).text [out] out.pos) false E.c (am (am z))=res):=hid (by rw[<-HE.out,bV,gL h8];rfl);have HC:=hid (fun W(hr:aH E W (am z))=>fK E (am z) W hr h8);clear HE h8;generalize(aj E.c (am z).at_).text=tx at *;refine iP 7 (S:=SS) (by kernel_rfl) hn ?_;intro D;(refine yh 0 [1,6,7] D ?_);(refine yh 1 [6,7] D ?_);(refine yh 2 [3,6,7] D ?_);(refine yh 4 [5,6,7] D ?_);(refine aP (rs:=[3,5]) (by kernel_rfl) (by simp) ?_;refine(co.cons rfl (fun Z hZ=>?_) (co.cons rfl (fun Z hZ=>?_) co.nil)))
        ·go_simp;(go_at_call 92);refine(HC.out _ M.drew.rd).mono ?_;rintro e w6⟨rfl,I⟩;have gh:=y.drew.grown I.gr (fun e=>g5 (by injection e));have gp:=O.drew.grown I.gr;have gi:=gu.drew.grown I.gr;have gl:=M.drew.trans I;have kd:J.heap.size<=w6.heap.size:=I.gr.size;have gn:=gv.keep (w:=J) (w':=w6) (ak.of_grown (w:=J.drew) (X:=fun b=>w.heap.size<=b/\b≠w.heap.size+1/\b≠K) I.gr (fun g e hX=>by injection e with e;subst e;have hX:w.heap.size<=E.R:=hX.1;omega)).block;(refine hZ.out _ _ (.inl ?_) (fun D=>?_))
         ·exact SSO.out _ gh gp
         (clear hZ Z;replace D:=D.resolve_right (by decide));(refine aP (rs:=[5]) (by kernel_rfl) (by simp) ?_;refine(co.cons rfl (fun Z hZ=>?_) co.nil));go_simp;have gm:=gh.alloc (.cells (nv out A c) 41);have ge:=gp.alloc (.cells (nv out A c) 41);have g7:=gi.alloc (.cells (nv out A c) 41);have g4:=gl.alloc (.cells (nv out A c) 41);have g3:=aa.new w6 41 (nv out A c);have g8:=(gn.mono (Y:=fun b=>(w.heap.size<=b/\b≠w.heap.size+1/\b≠K)/\b≠w6.heap.size) fun b hb hlt=>⟨hb,by omega⟩).keep (w':=w6.alloc (.cells (nv out A c) 41)) fun b _ hlt=>gS w6 _ b hlt;(have g6:K<w6.heap.size:=by omega);(have g2:w6.heap.size<(w6.alloc (.cells (nv out A c) 41)).heap.size:=by simp);(refine hZ.out _ _ (.inl ?_) (fun D=>?_))
         ·exact SSO.out _ gm ge
         (clear hZ Z;replace D:=D.resolve_right (by decide));clear I gh gp gi gl gn;generalize w6.heap.size=P at *;generalize w6.alloc (.cells (nv out A c) 41)=w7 at *;(refine aP (rs:=[6]) (by kernel_rfl) (by simp) ?_;refine(co.cons rfl (fun Z hZ=>?_) co.nil));go_simp;(go_at_call 91);refine(aI _ _ _ _ _ ⟨_,_,_,rfl⟩).mono ?_;rintro e w9⟨rfl,gd⟩;have ga:=gm.bl gd;have gx:=ge.bl gd;(refine hZ.out _ _ (.inl ?_) (fun D=>?_))
         ·exact SSO.out _ ga gx
         (clear hZ Z;replace D:=D.resolve_right (by decide));(refine aP (rs:=[7]) (by kernel_rfl) (by simp) ?_;refine(co.cons rfl (fun Z hZ=>?_) co.nil));obtain⟨x0,x1,x2,x3,hs,hq,hp,ho⟩:=ah ga;go_simp;(refine hZ.out _ _ (.inr rfl) (fun _=>?_);clear hZ Z;refine iO (by kernel_rfl) ?_ _);have hN:=mL (l:=[]) (ys:=[]) (w8:=w7) (A8:=some ⟨P,0,none⟩) (c8:=1) 23 tx g4 hh g8 ae.nil g6 g2 h5 (oP g3 (gA _)) (vU w7 _) (.inl rfl) gd ga ge g7;go_wp2_with fail;go_roundg g1
         case measure=>omega
         case rel=>exact⟨.mk 23 tx [out] out.pos,false,am (am z),some ⟨P,0,none⟩,1,rfl,hN.1,hN.2.1,hN.2.2.1,hN.2.2.2.1,hN.2.2.2.2,g9.out,fun h=>by cases h⟩
        ·go_simp;(refine hZ.out _ _ (.inl ?_) (fun D=>?_))
         ·exact SSO.out _ (y.drew.alloc _) (O.drew.alloc _)
         (clear hZ Z;replace D:=D.resolve_right (by decide));(refine aP (rs:=[3]) (by kernel_rfl) (by simp) ?_;refine(co.cons rfl (fun Z hZ=>?_) co.nil));go_simp;(go_at_call 92);refine(HC.out _ (M.drew.alloc _).rd).mono ?_;rintro e w7⟨rfl,I⟩;have gm:=(y.drew.alloc (.cells (nv out A c) 41)).grown I.gr (fun e=>g5 (by injection e));have ge:=(O.drew.alloc (.cells (nv out A c) 41)).grown I.gr;have g7:=(gu.drew.alloc (.cells (nv out A c) 41)).grown I.gr;have g3:=(aa.new J.drew 41 (nv out A c)).grown I.gr (fun e=>by injection e with e;have e:J.heap.size=E.R:=e;omega);have g4:=(M.drew.alloc (.cells (nv out A c) 41)).trans I;(have jz:J.heap.size+1<=w7.heap.size:=by have:=I.gr.size;simpa using this);have g8:=((gv.mono (Y:=fun b=>(w.heap.size<=b/\b≠w.heap.size+1/\b≠K)/\b≠J.heap.size) fun b hb hlt=>⟨hb,by omega⟩).keep (w:=J) (w':=J.drew.alloc (.cells (nv out A c) 41)) fun b _ hlt=>gS J.drew _ b hlt).keep (w':=w7) (ak.of_grown (X:=fun b=>(w.heap.size<=b/\b≠w.heap.size+1/\b≠K)/\b≠J.heap.size) I.gr (fun g e hX=>by injection e with e;subst e;have hX:w.heap.size<=E.R:=hX.1.1;omega)).block;have g6:K<J.heap.size:=hl;(have g2:J.heap.size<w7.heap.size:=by omega);clear I;(refine hZ.out _ _ (.inl ?_) (fun D=>?_))
         ·exact SSO.out _ gm ge
         (clear hZ Z;replace D:=D.resolve_right (by decide));(refine aP (rs:=[6]) (by kernel_rfl) (by simp) ?_;refine(co.cons rfl (fun Z hZ=>?_) co.nil));go_simp;(go_at_call 91);refine(aI _ _ _ _ _ ⟨_,_,_,rfl⟩).mono ?_;rintro e w9⟨rfl,gd⟩;have ga:=gm.bl gd;have gx:=ge.bl gd;(refine hZ.out _ _ (.inl ?_) (fun D=>?_))
         ·exact SSO.out _ ga gx
         (clear hZ Z;replace D:=D.resolve_right (by decide));(refine aP (rs:=[7]) (by kernel_rfl) (by simp) ?_;refine(co.cons rfl (fun Z hZ=>?_) co.nil));obtain⟨x0,x1,x2,x3,hs,hq,hp,ho⟩:=ah ga;go_simp;(refine hZ.out _ _ (.inr rfl) (fun _=>?_);clear hZ Z;refine iO (by kernel_rfl) ?_ _);have hN:=mL (l:=[]) (ys:=[]) (w8:=w7) (A8:=some ⟨J,0,none⟩) (c8:=1) 23 tx g4 hh g8 ae.nil g6 g2 h5 (oP g3 (gA _)) (vU w7 _) (.inl rfl) gd ga ge g7;go_wp2_with fail;go_roundg g1
         case measure=>omega
         case rel=>exact⟨.mk 23 tx [out] out.pos,false,am (am z),some ⟨J,0,none⟩,1,rfl,hN.1,hN.2.1,hN.2.2.1,hN.2.2.2.1,hN.2.2.2.2,g9.out,fun h=>by cases h⟩
      | false=>
       refine(aW E z _ _ gs.rd hD).mono ?_;rintro e w5⟨rfl,hz⟩;have jk:=hm.bl hz.bel;have jn:=hw.keep (w':=w5) fun b _ hlt=>hz.bel.block b hlt;have jd:=gz.bl hz.bel;have jm:=hu.bl hz.bel;have h4:=gs.trans hz.moved;clear hm hw gz hu gs hz b0;have b0:=aw jd;go_wp2_with fail;cases hI:aR E.c z ⟨#[123]⟩with
       |false=>have HF:Hid (res=.ok out z):=hid (by rw[<-HR.out,aV];simp[hA,hS,hD,hI]);refine(bL E z ⟨#[123]⟩ _ h4.rd).mono ?_;rw[hI];rintro e w6⟨rfl,gq⟩;have gh:=jk.bl gq;have gn:=jn.keep (w':=w6) fun b _ hlt=>gq.block b hlt;have gp:=jd.bl gq;have gi:=jm.bl gq;have gl:=h4.step gq;clear jk jn jd jm h4 gq b0;have b0:=aw gp;obtain⟨x0,x1,x2,x3,-,-,-,-⟩:=ah gh;obtain⟨d0,d1,d2,d3,e0,e1,e2,e3⟩:=ah gi;go_wp2_with fail;refine av HF.out (aY.val gn) gl gi (jC _) (by omega) ?_ rfl (by rfl) rfl;intro b hb;exact⟨hb.1,hb.2.1⟩
       | true=>
        refine(bL E z ⟨#[123]⟩ _ h4.rd).mono ?_;rw[hI];rintro e w6⟨rfl,gq⟩;have gh:=jk.bl gq;have gn:=jn.keep (w':=w6) fun b _ hlt=>gq.block b hlt;have gp:=jd.bl gq;have gi:=jm.bl gq;have gl:=h4.step gq;clear jk jn jd jm h4 gq b0;have b0:=aw gp;obtain⟨-,-,-,c3,-,-⟩:=gl.rd.cells;cases bare with
        |false=>have HF:Hid (res=.ok out z):=hid (by rw[<-HR.out,aV];simp[hA,hS,hD,hI]);obtain⟨x0,x1,x2,x3,-,-,-,-⟩:=ah gh;obtain⟨d0,d1,d2,d3,e0,e1,e2,e3⟩:=ah gi;go_wp2_with fail;refine av HF.out (aY.val gn) gl gi (jC _) (by omega) ?_ rfl (by rfl) rfl;intro b hb;exact⟨hb.1,hb.2.1⟩
        | true=>
         cases hH:z.head with
         |true=>have HF:Hid (res=.ok out z):=hid (by rw[<-HR.out,aV];simp[hA,hS,hD,hI,hH]);rw[hH]at c3;obtain⟨x0,x1,x2,x3,-,-,-,-⟩:=ah gh;obtain⟨d0,d1,d2,d3,e0,e1,e2,e3⟩:=ah gi;go_wp2_with fail;refine av HF.out (aY.val gn) gl gi (jC _) (by omega) ?_ rfl (by rfl) rfl;intro b hb;exact⟨hb.1,hb.2.1⟩
         | false=>
          rw[hH]at c3;obtain⟨x0,x1,x2,x3,-,-,-,-⟩:=ah gh;have km:=j2 rfl;go_wp2_with fail;refine(Eg _ out (gA _) km.1 _ w6 _ (aY.val gn)).mono ?_;cases hT:cR out with
          |none=>have HF:Hid (res=.ok out z):=hid (by rw[<-HR.out,aV];simp[hA,hS,hD,hI,hH,hT]);rintro e w7⟨hk,rfl⟩;unfold bg;have gj:Below w6 w6 (w7.alloc (.cells bg 41)):=hk.alloc hk.size _;have gt:=gh.bl gj;have j9:=gn.keep (w':=w7.alloc (.cells bg 41)) fun b _ hlt=>gj.block b hlt;have jl:=gi.bl gj;have ht:=gl.step gj;unfold bg at gt j9 ht;have js:aa (w7.alloc (.cells #[.int .i64 0,.string ⟨#[]⟩,.slice none 0 0,.int .i64 0] 41)) (w.heap.size+1) 41 bg:=jl;clear x0 x1 x2 x3 hk gh gn gi gl gp c3 b0 jl;obtain⟨x0,x1,x2,x3,-,-,-,-⟩:=ah gt;obtain⟨d0,d1,d2,d3,e0,e1,e2,e3⟩:=ah js;go_wp2_with fail;refine av HF.out (aY.val j9) ht js (jC _) (by omega) ?_ rfl (by rfl) rfl;intro b hb;exact⟨hb.1,hb.2.1⟩
          | some tt=>
           have HE:=hid (show(cI F tt E.c z).bind (fun n s1=>aV F g1 n false E.c s1)=res by rw[<-HR.out,aV];simp[hA,hS,hD,hI,hH,hT]);rintro e w7⟨hk,A7,c7,rfl,ha,-⟩;have gj:Below w6 w6 (w7.alloc (.cells (nv tt A7 c7) 41)):=hk.alloc hk.size _;have gt:=gh.bl gj;have gy:=gp.bl gj;have jl:=gi.bl gj;have ht:=gl.step gj;have kt:=gh.lt;have jz:=hk.size;have jy:=(ha.mono (Y:=fun b=>w.heap.size<=b/\b≠w.heap.size+1/\b≠K) fun b hb _=>by
            rcases hb with hb|hb
            ·exact hb
            ·exact⟨by omega,by omega,by omega⟩).keep (w':=w7.alloc (.cells (nv tt A7 c7) 41)) fun b _ hlt=>gS w7 _ b hlt
           have kj:=aa.new w7 41 (nv tt A7 c7);(have kw:w7.heap.size+1<=(w7.alloc (.cells (nv tt A7 c7) 41)).heap.size:=by simp);clear x0 x1 x2 x3 hk gj ha gh gn gi gl gp c3 b0 hA hS hD hI hH hT HR;(go_upto_region 15 with fail);generalize w7.heap.size=T at *;generalize w7.alloc (.cells (nv tt A7 c7) 41)=w8 at *;have b0:=aw gy;obtain⟨y0,y1,y2,y3,-,-,-,-⟩:=ah kj;go_wp2_with fail;cases hQ:cI F tt E.c z with
           |out=>exact absurd HE.out.symm (by rw[hQ];exact je.out)
           |fail q=>have HF:Hid (res=.fail q):=hid (by rw[<-HE.out,hQ];rfl);refine(nw E F hF (fun b=>w.heap.size<=b/\b≠w.heap.size+1/\b≠K) (fun hX=>by have hX:w.heap.size<=E.R:=hX.1;omega) _ z tt _ ht.rd jy (by rw[hQ];exact nofun)).mono ?_;rw[hQ];rintro e w9⟨rfl,kg⟩;unfold ag;exact⟨rfl,af HF.out ht.gr kg⟩
           | ok n9 s9=>
            have g9:Hid (aV F g1 n9 false E.c s9=res):=hid (by rw[<-HE.out,hQ];rfl);refine(nw E F hF (fun b=>w.heap.size<=b/\b≠w.heap.size+1/\b≠K) (fun hX=>by have hX:w.heap.size<=E.R:=hX.1;omega) _ z tt _ ht.rd jy (by rw[hQ];exact nofun)).mono ?_;rw[hQ];rintro e w9⟨⟨v9,rfl,kc⟩,jj⟩;obtain⟨A9,c9,rfl,jv⟩:=kc.toC;have ga:=gt.grown jj.gr (fun e=>g5 (by injection e));have gx:=gy.grown jj.gr;have kn:=jl.grown jj.gr;have kk:=ht.trans jj;have jv:=jv.mono (Y:=fun b=>w.heap.size<=b/\b≠w.heap.size+1/\b≠K) fun b hb _=>by
             rcases hb with hb|hb
             ·exact hb
             ·exact⟨by omega,by omega,by omega⟩
            (have ja:∀{g:Nat}{ty:TypeId}{C:Array Value},g<K->aa w9 g ty C->aa (cM w9 K (.int .i64 n9.kind) (.string n9.text) (.slice A9 n9.kids.length c9) (.int .i64 n9.pos)) g ty C:=by intro g ty C hgK h9;exact(((h9.far (p:=⟨K,0,none⟩) (by show g≠K;omega) _).far (p:=⟨K,1,none⟩) (by show g≠K;omega) _).far (p:=⟨K,2,none⟩) (by show g≠K;omega) _).far (p:=⟨K,3,none⟩) (by show g≠K;omega) _);have hN:aa (cM w9 K (.int .i64 n9.kind) (.string n9.text) (.slice A9 n9.kids.length c9) (.int .i64 n9.pos)) K 41 (nv n9 A9 c9) /\
              aY (fun b=>w.heap.size<=b/\b≠w.heap.size+1/\b≠K) (cM w9 K (.int .i64 n9.kind) (.string n9.text) (.slice A9 n9.kids.length c9) (.int .i64 n9.pos)) n9 [.int .i64 n9.kind,.string n9.text,.slice A9 n9.kids.length c9,.int .i64 n9.pos] /\
              aa (cM w9 K (.int .i64 n9.kind) (.string n9.text) (.slice A9 n9.kids.length c9) (.int .i64 n9.pos)) w.heap.size 112 #[E.R] /\
              aa (cM w9 K (.int .i64 n9.kind) (.string n9.text) (.slice A9 n9.kids.length c9) (.int .i64 n9.pos)) (w.heap.size+1) 41 bg /\
              au E s9 w (cM w9 K (.int .i64 n9.kind) (.string n9.text) (.slice A9 n9.kids.length c9) (.int .i64 n9.pos)):=
             ⟨cJ ga _ _ _ _,jv.keep (cA (fun b hb=>hb.2.2) _ _ _ _).block,ja (by omega) gx,ja (by omega) kn,dI kk (by omega) (by omega) _ _ _ _⟩
            obtain⟨d0,d1,d2,d3,e0,e1,e2,e3⟩:=ah ga;clear ja y0 y1 y2 y3 b0;have HN:=hid hN;clear hN;go_wp2_with fail;go_roundg g1
            case measure=>omega
            case rel=>exact⟨n9,false,s9,A9,c9,rfl,HN.out.1,HN.out.2.1,HN.out.2.2.1,HN.out.2.2.2.1,HN.out.2.2.2.2,g9.out,fun h=>by cases h⟩
end
section
open Go.RowKit Go.Lib Go.Proofs
theorem fQ.old{E:bC}{w:World}(h:fQ E.w0)(O:E.w0.heap.size<=E.R)(I:Mx E w):fQ w:=by
 have D:E.w0.heap.size<=w.heap.size:=by
  by_cases q:E.w0.heap.size=0
  ·omega
  ·have J:=I (E.w0.heap.size-1) (by omega);have M:E.w0.heap[E.w0.heap.size-1]? = some (E.w0.heap[E.w0.heap.size-1]'(by omega)):=vH (by omega);rw[M]at J;have:=(Array.getElem?_eq_some_iff.mp J).1;omega
 have hb:Below E.w0.heap.size E.w0 { E.w0 with heap:=w.heap }:=⟨rfl,rfl,rfl,D,fun b hb=>I b (by omega)⟩
 exact⟨(h.below hb).tab,(h.below hb).u8⟩
theorem Gd(E:bC)(hT:fQ E.w0)(M:E.w0.heap.size<=E.R)(D:∀t∈E.c.toks,t.text.size<=65536):EX E:=by
 constructor
 ·intro t ht _ w hO;refine(we t.text w (D t ht)).mono ?_;rintro e w'⟨J,h⟩;refine⟨?_,J⟩;rw[mU];cases I:lX t.text with
  |some x=>rw[I]at h;exact⟨_,h⟩
  |none=>rw[I]at h;obtain⟨n,_,rfl⟩:=h;exact⟨_,rfl⟩
 ·intro t ht _ w hO;have O:=D t ht;refine(tj t.text w (hT.old M hO) (by omega)).mono ?_;rintro e w'⟨J,h⟩;refine⟨?_,J⟩;rw[lf];cases I:ed t.text with
  |some x=>rw[I]at h;exact⟨_,h⟩
  |none=>rw[I]at h;obtain⟨n,_,rfl⟩:=h;exact⟨_,rfl⟩
theorem PG(E:bC)(D:EX E)(J:∀g,g+1<=1000000->∀s x s1,s.at_<=E.c.toks.length->(tI g).expr E.c s=.ok x s1->Ix x/\s1.at_<=E.c.toks.length)(q:∀g,uE E (tI g))(z:uH E)(I:MP E):∀g,g<=1000000->mC E (tI g)
 |0,_=>⟨fun _ _ _ h=>absurd rfl h,fun _ _ _ h=>absurd rfl h,fun _ _ _ h=>absurd rfl h,fun _ _ _ h=>absurd rfl h,fun _ _ _ h=>absurd rfl h,gT _⟩
 |g+1,O=>by have hF:=PG E D J q z I g (by omega);(have M:(tI g).g=g:=by cases g<;>rfl);have y:=FA E (tI g) hF (CS E (tI g) hF D (J g O) (by rw[M];omega));exact⟨MA E (tI g) hF,Lt E (tI g) y,y,Io E (tI g) hF (Ig E (tI g) hF) (q g) z I,In E (tI g) hF,O⟩
theorem Gs{E:bC}(h:∀t∈E.c.toks,t.text.size<=65536):uH E:=fun t ht=>gM (h t ht) (by decide)
end
end Go.Proofs.YtcoiialmdncpfaaGreatDoor
