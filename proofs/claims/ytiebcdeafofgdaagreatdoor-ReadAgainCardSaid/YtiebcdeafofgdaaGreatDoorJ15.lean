/-
  Parts of the proof: Rprim Lok Look Begin Rlev. By an AI agent.
-/
import Derived.Test.YtiebcdeafofgdaaGreatDoorJ14
import Derived.Test.YtiebcdeafofgdaaGreatDoorJ01
import Derived.Test.YtiebcdeafofgdaaGreatDoorJ11
import Derived.Test.YtiebcdeafofgdaaGreatDoorJ10
import Derived.Test.YtiebcdeafofgdaaGreatDoorJ03
import Derived.Test.YtiebcdeafofgdaaGreatDoorJ06
import Derived.Test.YtiebcdeafofgdaaGreatDoorJ09
import Derived.Test.YtiebcdeafofgdaaGreatDoorJ13
import Derived.Deep.LoopGhost
import Derived.BigQuiet
set_option maxRecDepth 100000
set_option maxHeartbeats 8000000
namespace Go.Proofs.YtiebcdeafofgdaaGreatDoor
section
open Go.RowKit Go.Lib Go.Proofs
attribute [local go_sem ↓] Go.wp_at_zero Go.wp_at_succ
attribute [local go_sem] aS aT aU bu bv bw bz
theorem qv:type_of% @List.find?_cons_of_pos:=@List.find?_cons_of_pos
theorem qw:type_of% @List.find?_cons_of_neg:=@List.find?_cons_of_neg
theorem vA:type_of% @Nat.le_add_left:=@Nat.le_add_left
theorem bK.val{X:Nat->Prop}{w:World}{n:Nd}{A:Option Addr}{c:Nat}(h:bK X w n [.int .i64 n.kind,.string n.text,.slice A n.kids.length c,.int .i64 n.pos]):aq X w (.agg (nv n A c)) n:=by obtain⟨U,O,D,I,N,M,J⟩:=h.toV;simp only[qP,and_true,true_and]at I;injection I with e1 _ e3;exact⟨U,O,D,by rw[e1,e3],N,M,J⟩
theorem Mr{r:bH Nd}{n:Nd}{s1:St}(h:(r.bind fun x s2=>bH.ok (x,false) s2)=.ok (n,true) s1):False:=by
 cases r with
 |ok x s2=>have h:bH.ok (x,false) s2=.ok (n,true) s1:=h;injection h with h _;injection h with _ h;cases h
 |fail p=>cases h
 |out=>cases h
theorem Pp{F:fJ}{c:Cx}{s s1:St}{n:Nd}{bare:Bool}(h:cx F c s=.ok (n,bare) s1)(hb:bare=true):Ix n/\n.kind≠10:=by
 subst hb;unfold cx at h;simp only at h;split at h
 ·injection h with h _;injection h with h _;subst h;refine⟨?_,by simp⟩;unfold Ix uZ;exact⟨fun h=>by omega,by simp,trivial⟩
 ·exfalso;split at h
  ·injection h with h _;injection h with _ h;cases h
  ·split at h
   ·injection h with h _;injection h with _ h;cases h
   ·split at h
    ·cases D:ce F.expr c (adv { s with part :=-1 })with
     |ok x s2=>
      rw[D]at h;have h:((need ⟨#[41]⟩ c s2).bind fun _ s3=>bH.ok (x,false) s3)=.ok (n,true) s1:=h;cases I:need ⟨#[41]⟩ c s2 with
      |ok u s3=>rw[I]at h;have h:bH.ok (x,false) s3=.ok (n,true) s1:=h;injection h with h _;injection h with _ h;cases h
      |fail p=>rw[I]at h;cases h
      |out=>rw[I]at h;cases h
     |fail p=>rw[D]at h;cases h
     |out=>rw[D]at h;cases h
    ·split at h
     ·exact Mr h
     ·split at h
      ·exact Mr h
      ·cases h
theorem Bi(part:R Nd)(en:ByteArray)(c:Cx):∀(g:Nat)(acc:List Nd)(s:St)(l:List Nd)(s':St),aX part en g acc c s=.ok l s'->1<=s'.at_
 |0,_,_,_,_,h=>by simp[aX]at h
 |g+1,acc,s,l,s',h=>by
  simp only[aX]at h;split at h
  ·injection h with _ h2;subst h2;exact vA 1 _
  ·cases D:part c s with
   |out=>rw[D]at h;cases h
   |fail p=>rw[D]at h;cases h
   |ok n s1=>
    rw[D]at h;simp only[bH.bind_ok]at h;split at h
    ·injection h with _ h2;subst h2;exact vA 1 _
    ·cases I:need ⟨#[44]⟩ c s1 with
     |out=>rw[I]at h;cases h
     |fail p=>rw[I]at h;cases h
     |ok u s2=>rw[I]at h;exact Bi part en c g (acc++[n]) s2 l s' h
theorem Ms{part:R Nd}{en:ByteArray}{c:Cx}{g:Nat}{s:St}{l:List Nd}{s':St}(h:ce (aX part en g []) c s=.ok l s'):1<=s'.at_:=by
 unfold ce at h;cases D:aX part en g [] c { s with head:=false }with
 |out=>rw[D]at h;cases h
 |fail p=>rw[D]at h;cases h
 |ok l1 s1=>rw[D]at h;simp only[bH.bind_ok]at h;injection h with _ h2;subst h2;show 1<=s1.at_;exact Bi part en c g [] _ _ _ D
theorem B7:∀{l:List Nd}{n:Nd},uZ l->Ix n->uZ (l++[n])
 |[],n,_,h=>by unfold uZ;exact⟨h,by unfold uZ;trivial⟩
 |x::r,n,D,h=>by unfold uZ at D;show uZ (x::(r++[n]));unfold uZ;exact⟨D.1,B7 D.2 h⟩
theorem DL{part:R Nd}{c:Cx}(hp:∀s n s1,s.at_<=c.toks.length->part c s=.ok n s1->Ix n/\s1.at_<=c.toks.length)(en:ByteArray):∀(g:Nat)(acc:List Nd)(s:St)(l:List Nd)(s':St),s.at_<=c.toks.length->aX part en g acc c s=.ok l s'->uZ acc->uZ l
 |0,_,_,_,_,_,h,_=>by simp[aX]at h
 |g+1,acc,s,l,s',hs,h,O=>by
  simp only[aX]at h;split at h
  ·injection h with I _;subst I;exact O
  ·cases M:part c s with
   |out=>rw[M]at h;cases h
   |fail p=>rw[M]at h;cases h
   |ok n s1=>
    have J:=hp s n s1 hs M;rw[M]at h;simp only[bH.bind_ok]at h;split at h
    ·injection h with I _;subst I;exact B7 O J.1
    ·cases D:need ⟨#[44]⟩ c s1 with
     |out=>rw[D]at h;cases h
     |fail p=>rw[D]at h;cases h
     |ok u U=>
      rw[D]at h;have N:U.at_<=c.toks.length:=by
       unfold need at D;split at D
       ·rename_i hc;injection D with _ D;subst D;rcases jZ s1.at_ c.toks.length with I|I
        ·exact I
        ·unfold aP OM ar at hc;rw[qB I]at hc;simp at hc
       ·cases D
      exact DL hp en g (acc++[n]) U l s' N h (B7 O J.1)
theorem Pq{F:fJ}{c:Cx}(J:∀s x s1,s.at_<=c.toks.length->F.expr c s=.ok x s1->Ix x/\s1.at_<=c.toks.length)(out:Nd)(l:List Nd){s s':St}(hs:s.at_<=c.toks.length)(M:Ix out/\out.kind≠10)(D:ce (aX (db F) ⟨#[93]⟩ F.g []) c s=.ok l s')(O:¬ l.length=0)(hg:F.g+1<=1000000):
  Ix (.mk 22 ⟨#[]⟩ (out::l) out.pos)/\(Nd.mk 22 ⟨#[]⟩ (out::l) out.pos).kind≠10:=by
 have N:=pO D;refine⟨?_,by simp⟩;have U:uZ l:=by
  unfold ce at D;cases I:aX (db F) ⟨#[93]⟩ F.g [] c { s with head:=false }with
  |out=>rw[I]at D;cases D
  |fail p=>rw[I]at D;cases D
  |ok l1 s1=>rw[I]at D;simp only[bH.bind_ok]at D;injection D with h1 _;subst h1;exact DL (fun s n s1 hs h=>J { s with part:=s.at_ } n s1 hs h) _ _ [] { s with head:=false } _ _ hs I (by unfold uZ;trivial)
 unfold Ix;refine⟨fun _=>⟨out,l,rfl,?_,M.2⟩,by simp only[gM];omega,?_⟩
 ·rintro rfl;exact O rfl
 ·unfold uZ;exact⟨M.1,U⟩
theorem oG{E:co}{s3:St}{w D w8 w9:World}{K P:Nat}{out:Nd}{l:List Nd}{A:Option Addr}{c:Nat}{A8:Option Addr}{c8:Nat}{ys:List Value}{b0 b1 b2 b3:Value}(kind:Int)(t:ByteArray)
  (gh:aD E s3 w D)(gq:E.R<w.heap.size)(gm:bK (fun b=>(w.heap.size<=b/\b≠w.heap.size+1/\b≠K)/\b≠P) D out [.int .i64 out.kind,.string out.text,.slice A out.kids.length c,.int .i64 out.pos])
  (gi:an (fun b=>(w.heap.size<=b/\b≠w.heap.size+1/\b≠K)/\b≠P) D l ys)(hP:K<P)(gu:P<D.heap.size)(gr:w.heap.size+2<=K)
  (N:w8.ownsRow P 24 4 (.slice A8 (1+l.length) c8) (1+l.length) ([.int .i64 out.kind,.string out.text,.slice A out.kids.length c,.int .i64 out.pos]++ys))(I:D.grownBy w8 (some P))
  (U:(Value.slice A8 (1+l.length) c8).ownBlock=some P\/(Value.slice A8 (1+l.length) c8).ownBlock=some D.heap.size)
  (J:Below w8 w8 w9)(gj:au w9 K 24 #[b0,b1,b2,b3])(gn:au D w.heap.size 52 #[E.R])(gk:au D (w.heap.size+1) 24 bD):
  au (ck w9 K (.int .i64 kind) (.string t) (.slice A8 (1+l.length) c8) (.int .i64 out.pos)) K 24 #[.int .i64 kind,.string t,.slice A8 (l.length+1) c8,.int .i64 out.pos] /\
  bK (fun b=>w.heap.size<=b/\b≠w.heap.size+1/\b≠K) (ck w9 K (.int .i64 kind) (.string t) (.slice A8 (1+l.length) c8) (.int .i64 out.pos)) (.mk kind t (out::l) out.pos) [.int .i64 kind,.string t,.slice A8 (out::l).length c8,.int .i64 out.pos] /\
  au (ck w9 K (.int .i64 kind) (.string t) (.slice A8 (1+l.length) c8) (.int .i64 out.pos)) w.heap.size 52 #[E.R] /\
  au (ck w9 K (.int .i64 kind) (.string t) (.slice A8 (1+l.length) c8) (.int .i64 out.pos)) (w.heap.size+1) 24 bD /\
  aD E s3 w (ck w9 K (.int .i64 kind) (.string t) (.slice A8 (1+l.length) c8) (.int .i64 out.pos)):=by
 have gt:=I.size;have gs:=J.size;have gb:=am.of_grown (X:=fun b=>(w.heap.size<=b/\b≠w.heap.size+1/\b≠K)/\b≠P) I (fun g e hX=>by injection e with e;exact hX.2 e.symm);have gl:=((an.cons gm gi).keep (w':=w8) gb.block).mono (Y:=fun b=>w.heap.size<=b/\b≠w.heap.size+1/\b≠K) (fun b hb _=>hb.1);have ge:=r7 (X:=fun b=>w.heap.size<=b/\b≠w.heap.size+1/\b≠K) (l:=out::l) N (by simp;omega) (fun g hg=>by
  rcases U with e|e<;>rw[hg]at e<;>injection e with e
  ·exact⟨by omega,by omega,by omega⟩
  ·exact⟨by omega,by omega,by omega⟩) gl
 have gd:=(ge.kept (am.of_below (X:=fun b=>w.heap.size<=b/\b≠w.heap.size+1/\b≠K) J (fun b _ h=>h))).kept (dq (fun b hb=>hb.2.2) (.int .i64 kind) (.string t) (.slice A8 (1+l.length) c8) (.int .i64 out.pos));have hn:=aq.of_slice gd kind t out.pos;have gg:aD E s3 w w9:=(gh.grownNew I (by omega) (by omega)).step J;(have M:∀{g:Nat}{ty:TypeId}{C:Array Value},g<K->au D g ty C->au (ck w9 K (.int .i64 kind) (.string t) (.slice A8 (1+l.length) c8) (.int .i64 out.pos)) g ty C:=by intro g ty C hgK hb;have h9:=(hb.grown I).below J (by have:=hb.lt;omega);exact(((h9.far (p:=⟨K,0,none⟩) (by show g≠K;omega) _).far (p:=⟨K,1,none⟩) (by show g≠K;omega) _).far (p:=⟨K,2,none⟩) (by show g≠K;omega) _).far (p:=⟨K,3,none⟩) (by show g≠K;omega) _);refine⟨?_,?_,M (by omega) gn,M (by omega) gk,fe gg (by omega) (by omega) _ _ _ _⟩
 ·have h:=cg gj (.int .i64 kind) (.string t) (.slice A8 (1+l.length) c8) (.int .i64 out.pos);generalize ck w9 K (.int .i64 kind) (.string t) (.slice A8 (1+l.length) c8) (.int .i64 out.pos)=W at h |-;rw[Nat.add_comm l.length 1];exact h
 obtain⟨A9,c9,ga,O,h1,h2,h3⟩:=hn;injection O with O;have O:=jH Array.toList O;simp only[qP]at O;obtain⟨-,-,gp,-,-⟩:=O;injection gp with e1 e2 e3;subst e1 e3;unfold bK;exact⟨_,_,ga,rfl,h1,h2,h3⟩
theorem DM(E:co)(F:fJ)(hF:oy E F)(js:F0 E)(km:∀s x s1,s.at_<=E.c.toks.length->F.expr E.c s=.ok x s1->Ix x/\s1.at_<=E.c.toks.length)(kp:F.g+1<=1000000):eF E (fE F) 138:=by
 intro w s h hno;generalize hres:fE F E.c s=res at *;have hz:=hid (show(cx F E.c s).bind (fun x s1=>aI F F.g x.1 x.2 E.c s1)=res from hres);have jf:=hid hno;have hh:=h.lt;clear hres hno;have jx:au ((w.alloc (.cells #[E.R] 52)).alloc (.cells bD 24)) w.heap.size 52 #[E.R]:=(au.new w _ _).alloc _;have j9:au ((w.alloc (.cells #[E.R] 52)).alloc (.cells bD 24)) (w.heap.size+1) 24 bD:=au.new_at (by simp) _ _;have jc:=((aD.refl h).alloc (.cells #[E.R] 52)).alloc (.cells bD 24);(have kz:((w.alloc (.cells #[E.R] 52)).alloc (.cells bD 24)).heap.size=w.heap.size+2:=by simp);(go_enter Tryz.func138,Tryz.ntmps138);(go_upto_region 1 with fail);change Code.wp _ _ _ _ ((w.alloc (.cells #[E.R] 52)).alloc (.cells bD 24));generalize(w.alloc (.cells #[E.R] 52)).alloc (.cells bD 24)=w0 at *;have b0:=bg jx;(go_wp2_with fail);cases hP:cx F E.c s with
 |out=>exact absurd hz.out.symm (by rw[hP];exact jf.out)
 |fail q=>refine(uD E F hF js _ s jc.rd (by rw[hP];exact nofun)).mono ?_;rw[hP];rintro e w1⟨rfl,ki⟩;unfold al;exact⟨rfl,ah (by rw[<-hz.out,hP];rfl) jc.gr ki⟩
 |ok x s1=>
  obtain⟨n,bare⟩:=x;have ju:bare=true->Ix n/\n.kind≠10:=Pp hP;have HE:Hid (aI F F.g n bare E.c s1=res):=hid (by rw[<-hz.out,hP];rfl);refine(uD E F hF js _ s jc.rd (by rw[hP];exact nofun)).mono ?_;rw[hP];rintro e w1⟨⟨v,rfl,hv⟩,h7⟩;obtain⟨A1,c1,rfl,jp⟩:=hv.toC;have kf:=h7.gr.size;have kc:=(jx.grown h7.gr).alloc (.cells (nv n A1 c1) 24);have j8:=(j9.grown h7.gr).alloc (.cells (nv n A1 c1) 24);have j6:=(jc.trans h7).alloc (.cells (nv n A1 c1) 24);have j7:=au.new w1 24 (nv n A1 c1);have jp:=jp.mono (Y:=fun b=>w.heap.size<=b/\b≠w.heap.size+1/\b≠w1.heap.size) fun b hb hlt=>⟨by omega,by omega,by omega⟩;have kb:=(jp.keep (w':=w1.alloc (.cells (nv n A1 c1) 24)) fun b _ hlt=>gW w1 _ b hlt);(go_upto_region 3 with fail);change Code.wp _ _ _ _ (w1.alloc (.cells (nv n A1 c1) 24));generalize hKK:w1.heap.size=K at *;generalize w1.alloc (.cells (nv n A1 c1) 24)=w2 at *;(have k2:K≠w.heap.size+1:=by omega);(have g5:K≠E.R:=by omega);(have h6:w.heap.size+2<=K:=by omega);clear jp hv hP hz jx j9 jc h7 b0 kf hKK;go_loopg [4] F.g (fun gg u4 wr=>∃(out:Nd)(bare:Bool)(U:St)(A:Option Addr)(c:Nat),u4=.bool bare/\au wr K 24 (nv out A c) /\
   bK (fun b=>w.heap.size<=b/\b≠w.heap.size+1/\b≠K) wr out [.int .i64 out.kind,.string out.text,.slice A out.kids.length c,.int .i64 out.pos]/\au wr w.heap.size 52 #[E.R]/\au wr (w.heap.size+1) 24 bD /\
   aD E U w wr/\aI F gg out bare E.c U=res/\(bare=true->Ix out/\out.kind≠10))
  case atStart=>exact⟨n,bare,s1,A1,c1,rfl,j7,kb,kc,j8,j6,HE.out,ju⟩
  case round=>
   obtain⟨out,bare,U,A,c,rfl,hK,hC,hB,hG,hM,hr,j3⟩:=hrel;(have jq:w.heap.size≠E.R:=by omega);cases gk with
   |zero=>exact absurd hr.symm (by rw[aI];exact jf.out)
   |succ g1=>
    have HR:=hid hr;clear hr HE j7 kb kc j8 j6;have b0:=bg hB;(go_wp2_with fail);cases hA:aP E.c U ⟨#[40]⟩with
    |true=>
     refine(bi E U _ _ hM.rd hA).mono ?_;rintro e J⟨rfl,gb⟩;have O:=hK.grown gb.gr (fun e=>g5 (by injection e));have gv:=hC.keep (w':=J) (am.of_grown (X:=fun b=>w.heap.size<=b/\b≠w.heap.size+1/\b≠K) gb.gr (fun g e hX=>by injection e with e;subst e;have hX:w.heap.size<=E.R:=hX.1;omega)).block;have N:=hB.grown gb.gr;have gu:=hG.grown gb.gr;have M:=hM.trans gb;have HE:=hid (show(ce (aX F.expr ⟨#[41]⟩ F.g []) E.c (adv U)).bind (fun l s3=>aI F g1 (.mk 21 ⟨#[]⟩ (out::l) out.pos) false E.c s3)=res by rw[<-HR.out,aI];simp only[hA,kJ]);clear hK hC hB hG hM gb b0 hA HR;have c0:=bg N;obtain⟨x0,x1,x2,x3,ht,hq,hp,ho⟩:=ag O;(go_wp2_with fail);(have hj:∀a w,(callFunc 186 a).run Tryz.prog w=.ok (.enter 186 a) w:=fun a w=>by kernel_rfl);have jg:=hid hj;clear hj;let SS:World->Prop:=fun w'=>w'.cell? ⟨K,0,none⟩=some (.int .i64 out.kind)/\w'.cell? ⟨K,1,none⟩=some (.string out.text)/\w'.cell? ⟨K,2,none⟩=some (.slice A out.kids.length c)/\w'.cell? ⟨K,3,none⟩=some (.int .i64 out.pos)/\w'.cell? ⟨w,0,none⟩=some (.pointer (some ⟨E.R,0,none⟩));have ssOf:∀W,au W K 24 (nv out A c)->au W w.heap.size 52 #[E.R]->SS W:=fun W h1 h2=>⟨(ag h1).1,(ag h1).2.1,(ag h1).2.2.1,(ag h1).2.2.2.1,bg h2⟩;have SSO:=hid ssOf;have hn:SS J.drew:=ssOf _ O.drew N.drew;clear ssOf;have hl:=O.lt;cases hQ:ce (aX F.expr ⟨#[41]⟩ F.g []) E.c (adv U)with
     |out=>exact absurd HE.out.symm (by rw[hQ];exact jf.out)
     |fail q=>
      have HF:Hid (res=.fail q):=hid (by rw[<-HE.out,hQ];rfl);have HC:=hid (fun W(hr:aR E W (adv U))(hc:W.cell? ⟨w,0,none⟩=some (.pointer (some ⟨E.R,0,none⟩)))=>lm E 186 #[] #[w] (aX F.expr ⟨#[41]⟩ F.g []) (adv U) W hr jg.out (AS E F hF w.heap.size W hc jq) (by rw[hQ];exact nofun));rw[hQ]at HC;clear x0 x1 x2 x3 c0;refine mA 9 (S:=SS) (by kernel_rfl) hn ?_;intro D;(refine Aw 0 [1,8,9] D ?_);(refine Aw 1 [8,9] D ?_);(refine Aw 2 [3,7,8,9] D ?_);(refine Aw 4 [6,7,8,9] D ?_);(refine Aw 5 [6,7,8,9] D ?_);(refine bh (rs:=[3,6]) (by kernel_rfl) (by simp) ?_;refine(dw.cons rfl (fun Z hZ=>?_) (dw.cons rfl (fun Z hZ=>?_) dw.nil)))
      ·go_simp;(refine hZ.out _ _ (.inl ?_) (fun D=>?_))
       ·exact SSO.out _ (O.drew.alloc _) (N.drew.alloc _)
       (clear hZ Z;replace D:=D.resolve_right (by decide));(refine bh (rs:=[6]) (by kernel_rfl) (by simp) ?_;refine(dw.cons rfl (fun Z hZ=>?_) dw.nil));go_simp;(go_at_call 185);refine(HC.out _ (M.drew.alloc _).rd (bg (N.drew.alloc _))).mono ?_;rintro e w7⟨rfl,g0⟩;unfold al;exact⟨rfl,ah HF.out (M.drew.alloc _).gr g0⟩
      ·go_simp;(go_at_call 185);refine(HC.out _ M.drew.rd (bg N.drew)).mono ?_;rintro e w7⟨rfl,g0⟩;unfold al;exact⟨rfl,ah HF.out M.drew.gr g0⟩
     |ok l s3=>
      have g9:Hid (aI F g1 (.mk 21 ⟨#[]⟩ (out::l) out.pos) false E.c s3=res):=hid (by rw[<-HE.out,hQ];rfl);have HC:=hid (fun W(hr:aR E W (adv U))(hc:W.cell? ⟨w,0,none⟩=some (.pointer (some ⟨E.R,0,none⟩)))=>lm E 186 #[] #[w] (aX F.expr ⟨#[41]⟩ F.g []) (adv U) W hr jg.out (AS E F hF w.heap.size W hc jq) (by rw[hQ];exact nofun));rw[hQ]at HC;have kg:=pO hQ;have j4:=hF.g;obtain⟨i0,hi,jj,ji,jh⟩:=qH pF;clear x0 x1 x2 x3 c0 HE hQ;refine mA 9 (S:=SS) (by kernel_rfl) hn ?_;intro D;(refine Aw 0 [1,8,9] D ?_);(refine Aw 1 [8,9] D ?_);(refine Aw 2 [3,7,8,9] D ?_);(refine Aw 4 [6,7,8,9] D ?_);(refine Aw 5 [6,7,8,9] D ?_);(refine bh (rs:=[3,6]) (by kernel_rfl) (by simp) ?_;refine(dw.cons rfl (fun Z hZ=>?_) (dw.cons rfl (fun Z hZ=>?_) dw.nil)))
      ·go_simp;(refine hZ.out _ _ (.inl ?_) (fun D=>?_))
       ·exact SSO.out _ (O.drew.alloc _) (N.drew.alloc _)
       (clear hZ Z;replace D:=D.resolve_right (by decide));(refine bh (rs:=[6]) (by kernel_rfl) (by simp) ?_;refine(dw.cons rfl (fun Z hZ=>?_) dw.nil));go_simp;(go_at_call 185);refine(HC.out _ (M.drew.alloc _).rd (bg (N.drew.alloc _))).mono ?_;rintro e w7⟨⟨v7,rfl,ha⟩,I⟩;obtain⟨A7,c7,ys,rfl,jr,hf,gw⟩:=ha;have gm:=(O.drew.alloc (.cells (nv out A c) 24)).grown I.gr (fun e=>g5 (by injection e));have ge:=(N.drew.alloc (.cells (nv out A c) 24)).grown I.gr;have g7:=(gu.drew.alloc (.cells (nv out A c) 24)).grown I.gr;have g3:=(au.new J.drew 24 (nv out A c)).grown I.gr (fun e=>by injection e with e;have e:J.heap.size=E.R:=e;omega);have g4:=(M.drew.alloc (.cells (nv out A c) 24)).trans I;(have j0:J.heap.size+1<=w7.heap.size:=by have:=I.gr.size;simpa using this);have g8:=((gv.mono (Y:=fun b=>(w.heap.size<=b/\b≠w.heap.size+1/\b≠K)/\b≠J.heap.size) fun b hb hlt=>⟨hb,by omega⟩).keep (w:=J) (w':=J.drew.alloc (.cells (nv out A c) 24)) fun b _ hlt=>gW J.drew _ b hlt).keep (w':=w7) (am.of_grown (X:=fun b=>(w.heap.size<=b/\b≠w.heap.size+1/\b≠K)/\b≠J.heap.size) I.gr (fun g e hX=>by injection e with e;subst e;have hX:w.heap.size<=E.R:=hX.1.1;omega)).block;(have jd:=gw.mono (Y:=fun b=>(w.heap.size<=b/\b≠w.heap.size+1/\b≠K)/\b≠J.heap.size) fun b hb _=>by(have hb:J.heap.size+1<=b:=by simpa using hb);exact⟨⟨by omega,by omega,by omega⟩,by omega⟩);have he:=oD hf (by omega);have hg:=lq gw;have g6:K<J.heap.size:=hl;(have g2:J.heap.size<w7.heap.size:=by omega);clear I gw hf;(refine hZ.out _ _ (.inl ?_) (fun D=>?_))
       ·exact SSO.out _ gm ge
       (clear hZ Z;replace D:=D.resolve_right (by decide));(refine bh (rs:=[7]) (by kernel_rfl) (by simp) ?_;refine(dw.cons rfl (fun Z hZ=>?_) dw.nil));refine fC _ (by rfl) (.tmp 20) (.tmp 23) 22 (by rfl) J.heap.size 24 i0 _ 4 56 Tryz.underlying22 hi jj ji jh (by rfl) (by omega) (.slice (some ⟨J,0,none⟩) 1 1) 1 [.int .i64 out.kind,.string out.text,.slice A out.kids.length c,.int .i64 out.pos] (by rfl) (o6 g3 (d5 _)) w7.heap.size A7 l.length c7 ys (by rfl) he hg (by unfold maxLen;omega) (by omega) (by omega) ?_;intro v8 w8 hown8 hg8 hat8;obtain⟨A8,c8,rfl,j5⟩:=pP hown8;have gt:=gm.grown hg8 (fun e=>by have e:some K=some J.heap.size:=e;injection e with e;omega);have gy:=ge.grown hg8 (fun e=>by have e:some w.heap.size=some J.heap.size:=e;injection e with e;omega);(refine hZ.out _ _ (.inl ?_) (fun D=>?_))
       ·exact SSO.out _ gt gy
       (clear hZ Z;replace D:=D.resolve_right (by decide));(refine bh (rs:=[8]) (by kernel_rfl) (by simp) ?_;refine(dw.cons rfl (fun Z hZ=>?_) dw.nil));go_simp;(go_at_call 64);refine(aN _ _ _ _ _ ⟨_,_,_,rfl⟩).mono ?_;rintro e w9⟨rfl,gd⟩;have ga:=gt.bl gd;have gx:=gy.bl gd;(refine hZ.out _ _ (.inl ?_) (fun D=>?_))
       ·exact SSO.out _ ga gx
       (clear hZ Z;replace D:=D.resolve_right (by decide));(refine bh (rs:=[9]) (by kernel_rfl) (by simp) ?_;refine(dw.cons rfl (fun Z hZ=>?_) dw.nil));obtain⟨x0,x1,x2,x3,ht,hq,hp,ho⟩:=ag ga;go_simp;(refine hZ.out _ _ (.inr rfl) (fun _=>?_);clear hZ Z;refine mz (by kernel_rfl) ?_ _);have hN:=oG 21 ⟨#[]⟩ g4 hh g8 jd g6 g2 h6 hown8 hg8 hat8 gd ga ge g7;(go_wp2_with fail);go_roundg g1
       case measure=>omega
       case rel=>exact⟨.mk 21 ⟨#[]⟩ (out::l) out.pos,false,s3,A8,c8,rfl,hN.1,hN.2.1,hN.2.2.1,hN.2.2.2.1,hN.2.2.2.2,g9.out,fun h=>by cases h⟩
      ·go_simp;(go_at_call 185);refine(HC.out _ M.drew.rd (bg N.drew)).mono ?_;rintro e w6⟨⟨v7,rfl,ha⟩,I⟩;obtain⟨A7,c7,ys,rfl,jr,hf,gw⟩:=ha;have gh:=O.drew.grown I.gr (fun e=>g5 (by injection e));have gp:=N.drew.grown I.gr;have gi:=gu.drew.grown I.gr;have gl:=M.drew.trans I;have ke:J.heap.size<=w6.heap.size:=I.gr.size;have gn:=gv.keep (w:=J) (w':=w6) (am.of_grown (w:=J.drew) (X:=fun b=>w.heap.size<=b/\b≠w.heap.size+1/\b≠K) I.gr (fun g e hX=>by injection e with e;subst e;have hX:w.heap.size<=E.R:=hX.1;omega)).block;have hg:=lq gw;(refine hZ.out _ _ (.inl ?_) (fun D=>?_))
       ·exact SSO.out _ gh gp
       (clear hZ Z;replace D:=D.resolve_right (by decide));(refine bh (rs:=[3]) (by kernel_rfl) (by simp) ?_;refine(dw.cons rfl (fun Z hZ=>?_) dw.nil));go_simp;have gm:=gh.alloc (.cells (nv out A c) 24);have ge:=gp.alloc (.cells (nv out A c) 24);have g7:=gi.alloc (.cells (nv out A c) 24);have g4:=gl.alloc (.cells (nv out A c) 24);have g3:=au.new w6 24 (nv out A c);have g8:=(gn.mono (Y:=fun b=>(w.heap.size<=b/\b≠w.heap.size+1/\b≠K)/\b≠w6.heap.size) fun b hb hlt=>⟨hb,by omega⟩).keep (w':=w6.alloc (.cells (nv out A c) 24)) fun b _ hlt=>gW w6 _ b hlt;have jd:=(gw.mono (Y:=fun b=>(w.heap.size<=b/\b≠w.heap.size+1/\b≠K)/\b≠w6.heap.size) fun b hb hlt=>by have hb:J.heap.size<=b:=hb;exact⟨⟨by omega,by omega,by omega⟩,by omega⟩).keep (w':=w6.alloc (.cells (nv out A c) 24)) fun b _ hlt=>gW w6 _ b hlt;have he:=oD (hf.keep (w':=w6.alloc (.cells (nv out A c) 24)) fun b _ hlt=>gW w6 _ b hlt) (by omega);(have g6:K<w6.heap.size:=by omega);(have g2:w6.heap.size<(w6.alloc (.cells (nv out A c) 24)).heap.size:=by simp);(refine hZ.out _ _ (.inl ?_) (fun D=>?_))
       ·exact SSO.out _ gm ge
       (clear hZ Z;replace D:=D.resolve_right (by decide));clear I gw hf gh gp gi gl gn;generalize w6.heap.size=P at *;generalize w6.alloc (.cells (nv out A c) 24)=w7 at *;(refine bh (rs:=[7]) (by kernel_rfl) (by simp) ?_;refine(dw.cons rfl (fun Z hZ=>?_) dw.nil));refine fC _ (by rfl) (.tmp 20) (.tmp 23) 22 (by rfl) P 24 i0 _ 4 56 Tryz.underlying22 hi jj ji jh (by rfl) (by omega) (.slice (some ⟨P,0,none⟩) 1 1) 1 [.int .i64 out.kind,.string out.text,.slice A out.kids.length c,.int .i64 out.pos] (by rfl) (o6 g3 (d5 _)) w7.heap.size A7 l.length c7 ys (by rfl) he hg (by unfold maxLen;omega) (by omega) (by omega) ?_;intro v8 w8 hown8 hg8 hat8;obtain⟨A8,c8,rfl,j5⟩:=pP hown8;have gt:=gm.grown hg8 (fun e=>by have e:some K=some P:=e;injection e with e;omega);have gy:=ge.grown hg8 (fun e=>by have e:some w.heap.size=some P:=e;injection e with e;omega);(refine hZ.out _ _ (.inl ?_) (fun D=>?_))
       ·exact SSO.out _ gt gy
       (clear hZ Z;replace D:=D.resolve_right (by decide));(refine bh (rs:=[8]) (by kernel_rfl) (by simp) ?_;refine(dw.cons rfl (fun Z hZ=>?_) dw.nil));go_simp;(go_at_call 64);refine(aN _ _ _ _ _ ⟨_,_,_,rfl⟩).mono ?_;rintro e w9⟨rfl,gd⟩;have ga:=gt.bl gd;have gx:=gy.bl gd;(refine hZ.out _ _ (.inl ?_) (fun D=>?_))
       ·exact SSO.out _ ga gx
       (clear hZ Z;replace D:=D.resolve_right (by decide));(refine bh (rs:=[9]) (by kernel_rfl) (by simp) ?_;refine(dw.cons rfl (fun Z hZ=>?_) dw.nil));obtain⟨x0,x1,x2,x3,ht,hq,hp,ho⟩:=ag ga;go_simp;(refine hZ.out _ _ (.inr rfl) (fun _=>?_);clear hZ Z;refine mz (by kernel_rfl) ?_ _);have hN:=oG 21 ⟨#[]⟩ g4 hh g8 jd g6 g2 h6 hown8 hg8 hat8 gd ga ge g7;(go_wp2_with fail);go_roundg g1
       case measure=>omega
       case rel=>exact⟨.mk 21 ⟨#[]⟩ (out::l) out.pos,false,s3,A8,c8,rfl,hN.1,hN.2.1,hN.2.2.1,hN.2.2.2.1,hN.2.2.2.2,g9.out,fun h=>by cases h⟩
    |false=>
     refine(bA E U _ _ hM.rd hA).mono ?_;rintro e J⟨rfl,h4⟩;have O:=hK.bl h4.bel;have gv:=hC.keep (w':=J) fun b _ hlt=>h4.bel.block b hlt;have N:=hB.bl h4.bel;have gu:=hG.bl h4.bel;have M:=hM.trans h4.moved;clear hK hC hB hG hM h4 b0;have b0:=bg N;(go_wp2_with fail);cases hS:aP E.c U ⟨#[91]⟩with
     |true=>
      refine(bi E U _ _ M.rd hS).mono ?_;rintro e w3'⟨rfl,gb⟩;have hm:=O.grown gb.gr (fun e=>g5 (by injection e));have hy:=gv.keep (w':=w3') (am.of_grown (X:=fun b=>w.heap.size<=b/\b≠w.heap.size+1/\b≠K) gb.gr (fun g e hX=>by injection e with e;subst e;have hX:w.heap.size<=E.R:=hX.1;omega)).block;have gz:=N.grown gb.gr;have hw:=gu.grown gb.gr;have gs:=M.trans gb;have HE:=hid (show(ce (aX (db F) ⟨#[93]⟩ F.g []) E.c (adv U)).bind (fun l s3=>if l.length=0 then .fail (ar E.c (s3.at_-1)).pos else aI F g1 (.mk 22 ⟨#[]⟩ (out::l) out.pos) bare E.c s3)=res by rw[<-HR.out,aI];simp only[hA,hS,gT,jY,kJ]);clear O gv N gu M gb b0 hA hS HR;have b0:=bg gz;(have hj:∀a w,(callFunc 187 a).run Tryz.prog w=.ok (.enter 187 a) w:=fun a w=>by kernel_rfl);have jg:=hid hj;clear hj;(go_wp2_with fail);cases hQ:ce (aX (db F) ⟨#[93]⟩ F.g []) E.c (adv U)with
      |out=>exact absurd HE.out.symm (by rw[hQ];exact jf.out)
      |fail q=>have HF:Hid (res=.fail q):=hid (by rw[<-HE.out,hQ];rfl);refine(lm E 187 #[] #[w] (aX (db F) ⟨#[93]⟩ F.g []) (adv U) _ gs.rd jg.out (AT E F hF w.heap.size _ (bg gz) jq) (by rw[hQ];exact nofun)).mono ?_;rw[hQ];rintro e w7⟨rfl,g0⟩;unfold al;exact⟨rfl,ah HF.out gs.gr g0⟩
      |ok l s3=>
       have jy:=hid (show(if l.length=0 then .fail (ar E.c (s3.at_-1)).pos else aI F g1 (.mk 22 ⟨#[]⟩ (out::l) out.pos) bare E.c s3)=res by rw[<-HE.out,hQ];rfl);have kg:=pO hQ;have j4:=kp;have j1:=hid gs.rd.le;have ks:=Ms hQ;refine(lm E 187 #[] #[w] (aX (db F) ⟨#[93]⟩ F.g []) (adv U) _ gs.rd jg.out (AT E F hF w.heap.size _ (bg gz) jq) (by rw[hQ];exact nofun)).mono ?_;rw[hQ];rintro e J⟨⟨v7,rfl,ha⟩,I⟩;obtain⟨A7,c7,ys,rfl,jr,hf,gw⟩:=ha;have O:=hm.grown I.gr (fun e=>g5 (by injection e));have gv:=hy.keep (w':=J) (am.of_grown (X:=fun b=>w.heap.size<=b/\b≠w.heap.size+1/\b≠K) I.gr (fun g e hX=>by injection e with e;subst e;have hX:w.heap.size<=E.R:=hX.1;omega)).block;have N:=gz.grown I.gr;have gu:=hw.grown I.gr;have M:=gs.trans I;have ky:=I.gr.size;have kv:=hm.lt;clear hm hy gz hw gs I b0 HE;have b0:=bg N;by_cases h8:l.length=0
       ·have HF:=hid (show res=.fail (av E.c { s3 with at_:=s3.at_-1 })by rw[<-jy.out,gE h8];rfl);obtain⟨y0,y1,y2,y3,y4,yf⟩:=M.rd.cells;have kw:=yf 1;have k0:=M.rd.most;have kt:=M.rd.le;(have k1:s3.at_<E.c.toks.length+1:=by omega);have q1:IntKind.i64.wrap ((s3.at_:Int)-1)=(s3.at_:Int)-1:=gO _ (by omega);have jv:=M.setAt (s3.at_-1) (by omega);rw[show((s3.at_-1:Nat):Int)=(s3.at_:Int)-1 by omega]at jv;have kq:=N.far (p:=⟨E.R,1,none⟩) (by show w.heap.size≠E.R;omega) (.int .i64 ((s3.at_:Int)-1));have b1:=bg kq;(have j2:((l.length:Int)==0)=true:=by rw[kK];omega);clear yf h8;(go_wp2_with fail);refine(eE E _ _ jv.rd).mono ?_;rintro e w5⟨rfl,kj⟩;unfold al;exact⟨rfl,ah HF.out jv.gr (ak _ kj)⟩
       ·have g9:Hid (aI F g1 (.mk 22 ⟨#[]⟩ (out::l) out.pos) bare E.c s3=res):=hid (by rw[<-jy.out,gA h8]);(have j2:((l.length:Int)==0)=false:=by rw[gF];omega);have kr:=hid (fun hb:bare=true=>Pq km out l j1.out (j3 hb) hQ h8 j4);clear jy h8 hQ;obtain⟨i0,hi,jj,ji,jh⟩:=qH pF;(go_wp2_with fail);let SS:World->Prop:=fun w'=>w'.cell? ⟨K,0,none⟩=some (.int .i64 out.kind)/\w'.cell? ⟨K,1,none⟩=some (.string out.text)/\w'.cell? ⟨K,2,none⟩=some (.slice A out.kids.length c)/\w'.cell? ⟨K,3,none⟩=some (.int .i64 out.pos)/\w'.cell? ⟨w,0,none⟩=some (.pointer (some ⟨E.R,0,none⟩));have ssOf:∀W,au W K 24 (nv out A c)->au W w.heap.size 52 #[E.R]->SS W:=fun W h1 h2=>⟨(ag h1).1,(ag h1).2.1,(ag h1).2.2.1,(ag h1).2.2.2.1,bg h2⟩;have SSO:=hid ssOf;have hn:SS J.drew:=ssOf _ O.drew N.drew;clear ssOf;have hl:=O.lt;refine mA 7 (S:=SS) (by kernel_rfl) hn ?_;intro D;(refine Aw 0 [1,6,7] D ?_);(refine Aw 1 [6,7] D ?_);(refine Aw 2 [3,5,6,7] D ?_);(refine Aw 4 [5,6,7] D ?_);(refine bh (rs:=[3]) (by kernel_rfl) (by simp) ?_;refine(dw.cons rfl (fun Z hZ=>?_) dw.nil));go_simp;have gm:=(O.alloc (.cells (nv out A c) 24)).drew;have ge:=(N.alloc (.cells (nv out A c) 24)).drew;have g7:=(gu.alloc (.cells (nv out A c) 24)).drew;have g4:=(M.alloc (.cells (nv out A c) 24)).drew;have g3:=(au.new J 24 (nv out A c)).drew;have g8:=(gv.mono (Y:=fun b=>(w.heap.size<=b/\b≠w.heap.size+1/\b≠K)/\b≠J.heap.size) fun b hb hlt=>⟨hb,by omega⟩).keep (w:=J) (w':=(J.alloc (.cells (nv out A c) 24)).drew) fun b _ hlt=>gW J _ b hlt;have jd:=(gw.mono (Y:=fun b=>(w.heap.size<=b/\b≠w.heap.size+1/\b≠K)/\b≠J.heap.size) fun b hb hlt=>⟨⟨by omega,by omega,by omega⟩,by omega⟩).keep (w:=J) (w':=(J.alloc (.cells (nv out A c) 24)).drew) fun b _ hlt=>gW J _ b hlt;have he:=oD (hf.keep (w:=J) (w':=(J.alloc (.cells (nv out A c) 24)).drew) fun b _ hlt=>gW J _ b hlt) (by omega);have hg:=lq gw;have g6:K<J.heap.size:=hl;(have g2:J.heap.size<((J.alloc (.cells (nv out A c) 24)).drew).heap.size:=by simp);(refine hZ.out _ _ (.inl ?_) (fun D=>?_))
        ·exact SSO.out _ gm ge
        (clear hZ Z;replace D:=D.resolve_right (by decide));clear gw hf gv gu M O N b0 hn;generalize(J.alloc (.cells (nv out A c) 24)).drew=w7 at *;(refine bh (rs:=[5]) (by kernel_rfl) (by simp) ?_;refine(dw.cons rfl (fun Z hZ=>?_) dw.nil));refine fC _ (by rfl) (.tmp 47) (.tmp 48) 22 (by rfl) J.heap.size 24 i0 _ 4 56 Tryz.underlying22 hi jj ji jh (by rfl) (by omega) (.slice (some ⟨J,0,none⟩) 1 1) 1 [.int .i64 out.kind,.string out.text,.slice A out.kids.length c,.int .i64 out.pos] (by rfl) (o6 g3 (d5 _)) w7.heap.size A7 l.length c7 ys (by rfl) he hg (by unfold maxLen;omega) (by omega) (by omega) ?_;intro v8 w8 hown8 hg8 hat8;obtain⟨A8,c8,rfl,j5⟩:=pP hown8;have gt:=gm.grown hg8 (fun e=>by have e:some K=some J.heap.size:=e;injection e with e;omega);have gy:=ge.grown hg8 (fun e=>by have e:some w.heap.size=some J.heap.size:=e;injection e with e;omega);(refine hZ.out _ _ (.inl ?_) (fun D=>?_))
        ·exact SSO.out _ gt gy
        (clear hZ Z;replace D:=D.resolve_right (by decide));(refine bh (rs:=[6]) (by kernel_rfl) (by simp) ?_;refine(dw.cons rfl (fun Z hZ=>?_) dw.nil));go_simp;(go_at_call 64);refine(aN _ _ _ _ _ ⟨_,_,_,rfl⟩).mono ?_;rintro e w9⟨rfl,gd⟩;have ga:=gt.bl gd;have gx:=gy.bl gd;(refine hZ.out _ _ (.inl ?_) (fun D=>?_))
        ·exact SSO.out _ ga gx
        (clear hZ Z;replace D:=D.resolve_right (by decide));(refine bh (rs:=[7]) (by kernel_rfl) (by simp) ?_;refine(dw.cons rfl (fun Z hZ=>?_) dw.nil));obtain⟨x0,x1,x2,x3,ht,hq,hp,ho⟩:=ag ga;go_simp;(refine hZ.out _ _ (.inr rfl) (fun _=>?_);clear hZ Z;refine mz (by kernel_rfl) ?_ _);have hN:=oG 22 ⟨#[]⟩ g4 hh g8 jd g6 g2 h6 hown8 hg8 hat8 gd ga ge g7;(go_wp2_with fail);go_roundg g1
        case measure=>omega
        case rel=>exact⟨.mk 22 ⟨#[]⟩ (out::l) out.pos,bare,s3,A8,c8,rfl,hN.1,hN.2.1,hN.2.2.1,hN.2.2.2.1,hN.2.2.2.2,g9.out,kr.out⟩
     |false=>
      refine(bA E U _ _ M.rd hS).mono ?_;rintro e w4⟨rfl,h3⟩;have hm:=O.bl h3.bel;have hy:=gv.keep (w':=w4) fun b _ hlt=>h3.bel.block b hlt;have gz:=N.bl h3.bel;have hw:=gu.bl h3.bel;have gs:=M.trans h3.moved;clear O gv N gu M h3 b0;have b0:=bg gz;(go_wp2_with fail);cases hD:aP E.c U ⟨#[46]⟩with
      |true=>
       refine(bi E U _ _ gs.rd hD).mono ?_;rintro e J⟨rfl,gb⟩;have O:=hm.grown gb.gr (fun e=>g5 (by injection e));have gv:=hy.keep (w':=J) (am.of_grown (X:=fun b=>w.heap.size<=b/\b≠w.heap.size+1/\b≠K) gb.gr (fun g e hX=>by injection e with e;subst e;have hX:w.heap.size<=E.R:=hX.1;omega)).block;have N:=gz.grown gb.gr;have gu:=hw.grown gb.gr;have M:=gs.trans gb;have HE:=hid (show(cG E.c (adv U)).bind (fun x s3=>aI F g1 (.mk 23 x [out] out.pos) false E.c s3)=res by rw[<-HR.out,aI];simp only[hA,hS,hD,gT,jY,kJ]);clear hm hy gz hw gs gb b0 hA hS hD HR;have c0:=bg N;obtain⟨x0,x1,x2,x3,ht,hq,hp,ho⟩:=ag O;(go_wp2_with fail);let SS:World->Prop:=fun w'=>w'.cell? ⟨K,0,none⟩=some (.int .i64 out.kind)/\w'.cell? ⟨K,1,none⟩=some (.string out.text)/\w'.cell? ⟨K,2,none⟩=some (.slice A out.kids.length c)/\w'.cell? ⟨K,3,none⟩=some (.int .i64 out.pos)/\w'.cell? ⟨w,0,none⟩=some (.pointer (some ⟨E.R,0,none⟩));have ssOf:∀W,au W K 24 (nv out A c)->au W w.heap.size 52 #[E.R]->SS W:=fun W h1 h2=>⟨(ag h1).1,(ag h1).2.1,(ag h1).2.2.1,(ag h1).2.2.2.1,bg h2⟩;have SSO:=hid ssOf;have hn:SS J.drew:=ssOf _ O.drew N.drew;clear ssOf;have hl:=O.lt;clear x0 x1 x2 x3 c0 ht hq hp ho;by_cases ja:(ar E.c (adv U).at_).kind=1
       case neg=>
        have HF:=hid (show res=.fail (av E.c (adv U))by rw[<-HE.out,cG,gA ja];rfl);have HC:=hid (fun W(hr:aR E W (adv U))=>mQ E (adv U) W hr ja);refine mA 7 (S:=SS) (by kernel_rfl) hn ?_;intro D;(refine Aw 0 [1,6,7] D ?_);(refine Aw 1 [6,7] D ?_);(refine Aw 2 [3,6,7] D ?_);(refine Aw 4 [5,6,7] D ?_);(refine bh (rs:=[3,5]) (by kernel_rfl) (by simp) ?_;refine(dw.cons rfl (fun Z hZ=>?_) (dw.cons rfl (fun Z hZ=>?_) dw.nil)))
        ·go_simp;(go_at_call 65);refine(HC.out _ M.drew.rd).mono ?_;rintro e w7⟨rfl,g0⟩;unfold al;exact⟨rfl,ah HF.out M.drew.gr (ak _ g0)⟩
        ·go_simp;(refine hZ.out _ _ (.inl ?_) (fun D=>?_))
         ·exact SSO.out _ (O.drew.alloc _) (N.drew.alloc _)
         (clear hZ Z;replace D:=D.resolve_right (by decide));(refine bh (rs:=[3]) (by kernel_rfl) (by simp) ?_;refine(dw.cons rfl (fun Z hZ=>?_) dw.nil));go_simp;(go_at_call 65);refine(HC.out _ (M.drew.alloc _).rd).mono ?_;rintro e w7⟨rfl,g0⟩;unfold al;exact⟨rfl,ah HF.out (M.drew.alloc _).gr (ak _ g0)⟩
       case pos=>
        have g9:Hid (aI F g1 (.mk 23 (ar E.c (adv U).at_).text [out] out.pos) false E.c (adv (adv U))=res):=hid (by rw[<-HE.out,cG,gE ja];rfl);have HC:=hid (fun W(hr:aR E W (adv U))=>lE E (adv U) W hr ja);clear HE ja;generalize(ar E.c (adv U).at_).text=tx at *;refine mA 7 (S:=SS) (by kernel_rfl) hn ?_;intro D;(refine Aw 0 [1,6,7] D ?_);(refine Aw 1 [6,7] D ?_);(refine Aw 2 [3,6,7] D ?_);(refine Aw 4 [5,6,7] D ?_);(refine bh (rs:=[3,5]) (by kernel_rfl) (by simp) ?_;refine(dw.cons rfl (fun Z hZ=>?_) (dw.cons rfl (fun Z hZ=>?_) dw.nil)))
        ·go_simp;(go_at_call 65);refine(HC.out _ M.drew.rd).mono ?_;rintro e w6⟨rfl,I⟩;have gh:=O.drew.grown I.gr (fun e=>g5 (by injection e));have gp:=N.drew.grown I.gr;have gi:=gu.drew.grown I.gr;have gl:=M.drew.trans I;have ke:J.heap.size<=w6.heap.size:=I.gr.size;have gn:=gv.keep (w:=J) (w':=w6) (am.of_grown (w:=J.drew) (X:=fun b=>w.heap.size<=b/\b≠w.heap.size+1/\b≠K) I.gr (fun g e hX=>by injection e with e;subst e;have hX:w.heap.size<=E.R:=hX.1;omega)).block;(refine hZ.out _ _ (.inl ?_) (fun D=>?_))
         ·exact SSO.out _ gh gp
         (clear hZ Z;replace D:=D.resolve_right (by decide));(refine bh (rs:=[5]) (by kernel_rfl) (by simp) ?_;refine(dw.cons rfl (fun Z hZ=>?_) dw.nil));go_simp;have gm:=gh.alloc (.cells (nv out A c) 24);have ge:=gp.alloc (.cells (nv out A c) 24);have g7:=gi.alloc (.cells (nv out A c) 24);have g4:=gl.alloc (.cells (nv out A c) 24);have g3:=au.new w6 24 (nv out A c);have g8:=(gn.mono (Y:=fun b=>(w.heap.size<=b/\b≠w.heap.size+1/\b≠K)/\b≠w6.heap.size) fun b hb hlt=>⟨hb,by omega⟩).keep (w':=w6.alloc (.cells (nv out A c) 24)) fun b _ hlt=>gW w6 _ b hlt;(have g6:K<w6.heap.size:=by omega);(have g2:w6.heap.size<(w6.alloc (.cells (nv out A c) 24)).heap.size:=by simp);(refine hZ.out _ _ (.inl ?_) (fun D=>?_))
         ·exact SSO.out _ gm ge
         (clear hZ Z;replace D:=D.resolve_right (by decide));clear I gh gp gi gl gn;generalize w6.heap.size=P at *;generalize w6.alloc (.cells (nv out A c) 24)=w7 at *;(refine bh (rs:=[6]) (by kernel_rfl) (by simp) ?_;refine(dw.cons rfl (fun Z hZ=>?_) dw.nil));go_simp;(go_at_call 64);refine(aN _ _ _ _ _ ⟨_,_,_,rfl⟩).mono ?_;rintro e w9⟨rfl,gd⟩;have ga:=gm.bl gd;have gx:=ge.bl gd;(refine hZ.out _ _ (.inl ?_) (fun D=>?_))
         ·exact SSO.out _ ga gx
         (clear hZ Z;replace D:=D.resolve_right (by decide));(refine bh (rs:=[7]) (by kernel_rfl) (by simp) ?_;refine(dw.cons rfl (fun Z hZ=>?_) dw.nil));obtain⟨x0,x1,x2,x3,ht,hq,hp,ho⟩:=ag ga;go_simp;(refine hZ.out _ _ (.inr rfl) (fun _=>?_);clear hZ Z;refine mz (by kernel_rfl) ?_ _);have hN:=oG (l:=[]) (ys:=[]) (w8:=w7) (A8:=some ⟨P,0,none⟩) (c8:=1) 23 tx g4 hh g8 an.nil g6 g2 h6 (o6 g3 (d5 _)) (va w7 _) (.inl rfl) gd ga ge g7;(go_wp2_with fail);go_roundg g1
         case measure=>omega
         case rel=>exact⟨.mk 23 tx [out] out.pos,false,adv (adv U),some ⟨P,0,none⟩,1,rfl,hN.1,hN.2.1,hN.2.2.1,hN.2.2.2.1,hN.2.2.2.2,g9.out,fun h=>by cases h⟩
        ·go_simp;(refine hZ.out _ _ (.inl ?_) (fun D=>?_))
         ·exact SSO.out _ (O.drew.alloc _) (N.drew.alloc _)
         (clear hZ Z;replace D:=D.resolve_right (by decide));(refine bh (rs:=[3]) (by kernel_rfl) (by simp) ?_;refine(dw.cons rfl (fun Z hZ=>?_) dw.nil));go_simp;(go_at_call 65);refine(HC.out _ (M.drew.alloc _).rd).mono ?_;rintro e w7⟨rfl,I⟩;have gm:=(O.drew.alloc (.cells (nv out A c) 24)).grown I.gr (fun e=>g5 (by injection e));have ge:=(N.drew.alloc (.cells (nv out A c) 24)).grown I.gr;have g7:=(gu.drew.alloc (.cells (nv out A c) 24)).grown I.gr;have g3:=(au.new J.drew 24 (nv out A c)).grown I.gr (fun e=>by injection e with e;have e:J.heap.size=E.R:=e;omega);have g4:=(M.drew.alloc (.cells (nv out A c) 24)).trans I;(have j0:J.heap.size+1<=w7.heap.size:=by have:=I.gr.size;simpa using this);have g8:=((gv.mono (Y:=fun b=>(w.heap.size<=b/\b≠w.heap.size+1/\b≠K)/\b≠J.heap.size) fun b hb hlt=>⟨hb,by omega⟩).keep (w:=J) (w':=J.drew.alloc (.cells (nv out A c) 24)) fun b _ hlt=>gW J.drew _ b hlt).keep (w':=w7) (am.of_grown (X:=fun b=>(w.heap.size<=b/\b≠w.heap.size+1/\b≠K)/\b≠J.heap.size) I.gr (fun g e hX=>by injection e with e;subst e;have hX:w.heap.size<=E.R:=hX.1.1;omega)).block;have g6:K<J.heap.size:=hl;(have g2:J.heap.size<w7.heap.size:=by omega);clear I;(refine hZ.out _ _ (.inl ?_) (fun D=>?_))
         ·exact SSO.out _ gm ge
         (clear hZ Z;replace D:=D.resolve_right (by decide));(refine bh (rs:=[6]) (by kernel_rfl) (by simp) ?_;refine(dw.cons rfl (fun Z hZ=>?_) dw.nil));go_simp;(go_at_call 64);refine(aN _ _ _ _ _ ⟨_,_,_,rfl⟩).mono ?_;rintro e w9⟨rfl,gd⟩;have ga:=gm.bl gd;have gx:=ge.bl gd;(refine hZ.out _ _ (.inl ?_) (fun D=>?_))
         ·exact SSO.out _ ga gx
         (clear hZ Z;replace D:=D.resolve_right (by decide));(refine bh (rs:=[7]) (by kernel_rfl) (by simp) ?_;refine(dw.cons rfl (fun Z hZ=>?_) dw.nil));obtain⟨x0,x1,x2,x3,ht,hq,hp,ho⟩:=ag ga;go_simp;(refine hZ.out _ _ (.inr rfl) (fun _=>?_);clear hZ Z;refine mz (by kernel_rfl) ?_ _);have hN:=oG (l:=[]) (ys:=[]) (w8:=w7) (A8:=some ⟨J,0,none⟩) (c8:=1) 23 tx g4 hh g8 an.nil g6 g2 h6 (o6 g3 (d5 _)) (va w7 _) (.inl rfl) gd ga ge g7;(go_wp2_with fail);go_roundg g1
         case measure=>omega
         case rel=>exact⟨.mk 23 tx [out] out.pos,false,adv (adv U),some ⟨J,0,none⟩,1,rfl,hN.1,hN.2.1,hN.2.2.1,hN.2.2.2.1,hN.2.2.2.2,g9.out,fun h=>by cases h⟩
      |false=>
       refine(bA E U _ _ gs.rd hD).mono ?_;rintro e w5⟨rfl,h0⟩;have jl:=hm.bl h0.bel;have jo:=hy.keep (w':=w5) fun b _ hlt=>h0.bel.block b hlt;have je:=gz.bl h0.bel;have jn:=hw.bl h0.bel;have h5:=gs.trans h0.moved;clear hm hy gz hw gs h0 b0;have b0:=bg je;(go_wp2_with fail);cases hI:aP E.c U ⟨#[123]⟩with
       |false=>have HF:Hid (res=.ok out U):=hid (by rw[<-HR.out,aI];simp[hA,hS,hD,hI]);refine(bW E U ⟨#[123]⟩ _ h5.rd).mono ?_;rw[hI];rintro e w6⟨rfl,gq⟩;have gh:=jl.bl gq;have gn:=jo.keep (w':=w6) fun b _ hlt=>gq.block b hlt;have gp:=je.bl gq;have gi:=jn.bl gq;have gl:=h5.step gq;clear jl jo je jn h5 gq b0;have b0:=bg gp;obtain⟨x0,x1,x2,x3,-,-,-,-⟩:=ag gh;obtain⟨d0,d1,d2,d3,e0,e1,e2,e3⟩:=ag gi;(go_wp2_with fail);refine aB HF.out (bK.val gn) gl gi (jE _) (by omega) ?_ rfl (by rfl) rfl;intro b hb;exact⟨hb.1,hb.2.1⟩
       |true=>
        refine(bW E U ⟨#[123]⟩ _ h5.rd).mono ?_;rw[hI];rintro e w6⟨rfl,gq⟩;have gh:=jl.bl gq;have gn:=jo.keep (w':=w6) fun b _ hlt=>gq.block b hlt;have gp:=je.bl gq;have gi:=jn.bl gq;have gl:=h5.step gq;clear jl jo je jn h5 gq b0;have b0:=bg gp;obtain⟨-,-,-,c3,-,-⟩:=gl.rd.cells;cases bare with
        |false=>have HF:Hid (res=.ok out U):=hid (by rw[<-HR.out,aI];simp[hA,hS,hD,hI]);obtain⟨x0,x1,x2,x3,-,-,-,-⟩:=ag gh;obtain⟨d0,d1,d2,d3,e0,e1,e2,e3⟩:=ag gi;(go_wp2_with fail);refine aB HF.out (bK.val gn) gl gi (jE _) (by omega) ?_ rfl (by rfl) rfl;intro b hb;exact⟨hb.1,hb.2.1⟩
        |true=>
         cases hH:U.head with
         |true=>have HF:Hid (res=.ok out U):=hid (by rw[<-HR.out,aI];simp[hA,hS,hD,hI,hH]);rw[hH]at c3;obtain⟨x0,x1,x2,x3,-,-,-,-⟩:=ag gh;obtain⟨d0,d1,d2,d3,e0,e1,e2,e3⟩:=ag gi;(go_wp2_with fail);refine aB HF.out (bK.val gn) gl gi (jE _) (by omega) ?_ rfl (by rfl) rfl;intro b hb;exact⟨hb.1,hb.2.1⟩
         |false=>
          rw[hH]at c3;obtain⟨x0,x1,x2,x3,-,-,-,-⟩:=ag gh;have kn:=j3 rfl;(go_wp2_with fail);refine(E2 _ out (d5 _) kn.1 _ w6 _ (bK.val gn)).mono ?_;cases hT:bJ out with
          |none=>have HF:Hid (res=.ok out U):=hid (by rw[<-HR.out,aI];simp[hA,hS,hD,hI,hH,hT]);rintro e w7⟨hk,rfl⟩;unfold bD;have gj:Below w6 w6 (w7.alloc (.cells bD 24)):=hk.alloc hk.size _;have gt:=gh.bl gj;have ka:=gn.keep (w':=w7.alloc (.cells bD 24)) fun b _ hlt=>gj.block b hlt;have jm:=gi.bl gj;have hu:=gl.step gj;unfold bD at gt ka hu;have jt:au (w7.alloc (.cells #[.int .i64 0,.string ⟨#[]⟩,.slice none 0 0,.int .i64 0] 24)) (w.heap.size+1) 24 bD:=jm;clear x0 x1 x2 x3 hk gh gn gi gl gp c3 b0 jm;obtain⟨x0,x1,x2,x3,-,-,-,-⟩:=ag gt;obtain⟨d0,d1,d2,d3,e0,e1,e2,e3⟩:=ag jt;(go_wp2_with fail);refine aB HF.out (bK.val ka) hu jt (jE _) (by omega) ?_ rfl (by rfl) rfl;intro b hb;exact⟨hb.1,hb.2.1⟩
          |some tt=>
           have HE:=hid (show(da F tt E.c U).bind (fun n s1=>aI F g1 n false E.c s1)=res by rw[<-HR.out,aI];simp[hA,hS,hD,hI,hH,hT]);rintro e w7⟨hk,A7,c7,rfl,ha,-⟩;have gj:Below w6 w6 (w7.alloc (.cells (nv tt A7 c7) 24)):=hk.alloc hk.size _;have gt:=gh.bl gj;have gy:=gp.bl gj;have jm:=gi.bl gj;have hu:=gl.step gj;have ku:=gh.lt;have j0:=hk.size;have jz:=(ha.mono (Y:=fun b=>w.heap.size<=b/\b≠w.heap.size+1/\b≠K) fun b hb _=>by
            rcases hb with hb|hb
            ·exact hb
            ·exact⟨by omega,by omega,by omega⟩).keep (w':=w7.alloc (.cells (nv tt A7 c7) 24)) fun b _ hlt=>gW w7 _ b hlt
           have kk:=au.new w7 24 (nv tt A7 c7);(have kx:w7.heap.size+1<=(w7.alloc (.cells (nv tt A7 c7) 24)).heap.size:=by simp);clear x0 x1 x2 x3 hk gj ha gh gn gi gl gp c3 b0 hA hS hD hI hH hT HR;(go_upto_region 15 with fail);generalize w7.heap.size=T at *;generalize w7.alloc (.cells (nv tt A7 c7) 24)=w8 at *;have b0:=bg gy;obtain⟨y0,y1,y2,y3,-,-,-,-⟩:=ag kk;(go_wp2_with fail);cases hQ:da F tt E.c U with
           |out=>exact absurd HE.out.symm (by rw[hQ];exact jf.out)
           |fail q=>have HF:Hid (res=.fail q):=hid (by rw[<-HE.out,hQ];rfl);refine(th E F hF (fun b=>w.heap.size<=b/\b≠w.heap.size+1/\b≠K) (fun hX=>by have hX:w.heap.size<=E.R:=hX.1;omega) _ U tt _ hu.rd jz (by rw[hQ];exact nofun)).mono ?_;rw[hQ];rintro e w9⟨rfl,kh⟩;unfold al;exact⟨rfl,ah HF.out hu.gr kh⟩
           |ok n9 s9=>
            have g9:Hid (aI F g1 n9 false E.c s9=res):=hid (by rw[<-HE.out,hQ];rfl);refine(th E F hF (fun b=>w.heap.size<=b/\b≠w.heap.size+1/\b≠K) (fun hX=>by have hX:w.heap.size<=E.R:=hX.1;omega) _ U tt _ hu.rd jz (by rw[hQ];exact nofun)).mono ?_;rw[hQ];rintro e w9⟨⟨v9,rfl,kd⟩,jk⟩;obtain⟨A9,c9,rfl,jw⟩:=kd.toC;have ga:=gt.grown jk.gr (fun e=>g5 (by injection e));have gx:=gy.grown jk.gr;have ko:=jm.grown jk.gr;have kl:=hu.trans jk;have jw:=jw.mono (Y:=fun b=>w.heap.size<=b/\b≠w.heap.size+1/\b≠K) fun b hb _=>by
             rcases hb with hb|hb
             ·exact hb
             ·exact⟨by omega,by omega,by omega⟩
            (have jb:∀{g:Nat}{ty:TypeId}{C:Array Value},g<K->au w9 g ty C->au (ck w9 K (.int .i64 n9.kind) (.string n9.text) (.slice A9 n9.kids.length c9) (.int .i64 n9.pos)) g ty C:=by intro g ty C hgK h9;exact(((h9.far (p:=⟨K,0,none⟩) (by show g≠K;omega) _).far (p:=⟨K,1,none⟩) (by show g≠K;omega) _).far (p:=⟨K,2,none⟩) (by show g≠K;omega) _).far (p:=⟨K,3,none⟩) (by show g≠K;omega) _);have hN:au (ck w9 K (.int .i64 n9.kind) (.string n9.text) (.slice A9 n9.kids.length c9) (.int .i64 n9.pos)) K 24 (nv n9 A9 c9) /\
              bK (fun b=>w.heap.size<=b/\b≠w.heap.size+1/\b≠K) (ck w9 K (.int .i64 n9.kind) (.string n9.text) (.slice A9 n9.kids.length c9) (.int .i64 n9.pos)) n9 [.int .i64 n9.kind,.string n9.text,.slice A9 n9.kids.length c9,.int .i64 n9.pos] /\
              au (ck w9 K (.int .i64 n9.kind) (.string n9.text) (.slice A9 n9.kids.length c9) (.int .i64 n9.pos)) w.heap.size 52 #[E.R] /\
              au (ck w9 K (.int .i64 n9.kind) (.string n9.text) (.slice A9 n9.kids.length c9) (.int .i64 n9.pos)) (w.heap.size+1) 24 bD /\
              aD E s9 w (ck w9 K (.int .i64 n9.kind) (.string n9.text) (.slice A9 n9.kids.length c9) (.int .i64 n9.pos)):=
             ⟨cg ga _ _ _ _,jw.keep (dq (fun b hb=>hb.2.2) _ _ _ _).block,jb (by omega) gx,jb (by omega) ko,fe kl (by omega) (by omega) _ _ _ _⟩
            obtain⟨d0,d1,d2,d3,e0,e1,e2,e3⟩:=ag ga;clear jb y0 y1 y2 y3 b0;have HN:=hid hN;clear hN;(go_wp2_with fail);go_roundg g1
            case measure=>omega
            case rel=>exact⟨n9,false,s9,A9,c9,rfl,HN.out.1,HN.out.2.1,HN.out.2.2.1,HN.out.2.2.2.1,HN.out.2.2.2.2,g9.out,fun h=>by cases h⟩
end
section
open Go.RowKit Go.Lib Go.Proofs
theorem mH.old{E:co}{w:World}(h:mH E.w0)(hE:E.w0.heap.size<=E.R)(I:ON E w):mH w:=by
 have D:E.w0.heap.size<=w.heap.size:=by
  by_cases N:E.w0.heap.size=0
  ·omega
  ·have J:=I (E.w0.heap.size-1) (by omega);have M:E.w0.heap[E.w0.heap.size-1]? = some (E.w0.heap[E.w0.heap.size-1]'(by omega)):=Array.getElem?_eq_getElem (by omega);rw[M]at J;have:=(Array.getElem?_eq_some_iff.mp J).1;omega
 have hb:Below E.w0.heap.size E.w0 { E.w0 with heap:=w.heap }:=⟨rfl,rfl,rfl,D,fun b hb=>I b (by omega)⟩
 exact⟨(h.below hb).tab,(h.below hb).u8⟩
theorem If(E:co)(hT:mH E.w0)(hE:E.w0.heap.size<=E.R)(D:∀t∈E.c.toks,t.text.size<=65536):F0 E:=by
 constructor
 ·intro t ht _ w hO;refine(wR t.text w (D t ht)).mono ?_;rintro e w'⟨hB,h⟩;refine⟨?_,hB⟩;rw[lY];cases I:lA t.text with
  |some x=>rw[I]at h;exact⟨_,h⟩
  |none=>rw[I]at h;obtain⟨n,_,rfl⟩:=h;exact⟨_,rfl⟩
 ·intro t ht _ w hO;have J:=D t ht;refine(uA t.text w (hT.old hE hO) (by omega)).mono ?_;rintro e w'⟨hB,h⟩;refine⟨?_,hB⟩;rw[i6];cases I:ec t.text with
  |some x=>rw[I]at h;exact⟨_,h⟩
  |none=>rw[I]at h;obtain⟨n,_,rfl⟩:=h;exact⟨_,rfl⟩
end
section
open Go.RowKit Go.Lib Go.Proofs
attribute [local go_sem ↓] Go.wp_at_zero Go.wp_at_succ
attribute [local go_sem] aS aT aU
def rq:ByteArray:=(⟨#[32,60,60,61,32,62,62,61,32,38,94,61,32,46,46,46,32,43,61,32,45,61,32,42,61,32,47,61,32,37,61,32,38,61,32,124,61,32,94,61,32,60,60,32,62,62,32,38,94,32,60,45,32,38,32,94,32,58,32]⟩:BA)
def mV(t:cY):Bool:=decide (t.kind=3)||((decide (t.kind=6)&&Lib.contains rq.data.toList ((⟨#[32]⟩++t.text++⟨#[32]⟩:ByteArray)).data.toList)||(decide (t.kind=2)&&(t.text.toList==[105,109,112,111,114,116])))
def Qz0(o:Option ByteArray):Bool:=match o with
 |none=>true
 |some x=>decide (1000<x.size)
def l9(t:cY):Bool:=(decide (t.kind=4)&&(lA t.text).isNone)||(decide (t.kind=5)&&Qz0 (ec t.text))
def L2(a b:Option cY):Option (Int×Int):=match a with
 |some t=>some (t.pos,16)
 |none=>match b with
   |some t=>some (t.pos,4)
   |none=>none
def pS(l:List cY):Option (Int×Int):=L2 (l.find? mV) (l.find? l9)
def L3(r:Option (Int×Int)):Value:=match r with
 |some q=>.tuple #[.int .i64 q.1,.int .i64 q.2]
 |none=>.tuple #[.int .i64 0,.int .i64 0]
theorem E3(A:Option Addr)(c:Nat)(l:List cY)(w:World)(hr:cw w w.heap.size 3 A l.length (l.flatMap ou))(hl:l.length<=1000000)(hT:mH w)(hz:∀t∈l,t.text.size<=65536):
  Calls Tryz.prog 58 #[.slice A l.length c] w fun e w'=>e=.returned (L3 (pS l))/\Below w w w':=by
 have HR:=hid hr;have HT:=hid hT;have HZ:=hid hz;obtain⟨R1,gr⟩:∃R1,l.find? mV=R1:=⟨_,rfl⟩;obtain⟨R2,gq⟩:∃R2,l.find? l9=R2:=⟨_,rfl⟩;have ga:Hid (pS l=L2 R1 R2):=hid (by rw[pS,gr,gq]);have gu:=hid gr;have gt:=hid gq;clear hr hT hz gr gq;(go_enter Tryz.func58,Tryz.ntmps58);(go_wp2_with fail);go_loopg [5,12] l.length (fun g _ u12 wr=>∃i:Nat,i<=l.length/\l.length-i<=g/\u12=.int .i64 (i:Int)/\Below w w wr/\(l.drop i).find? mV=R1)
 case atStart=>exact⟨0,gP _,by omega,rfl,gG _ _,gu.out⟩
 case round=>
  clear gu;obtain⟨i,hi,hg,rfl,hB,hq⟩:=hrel;have O:=hid hq;clear hq;by_cases M:i<l.length
  ·(have ge:(i:Int)<(l.length:Int):=by omega);have gx:=hB.size;(have h0:(0:Int)<=(i:Int):=by omega);obtain⟨bk,off,gs,gv,gb⟩:=(HR.out.below hB).el fZ (by omega) rfl M;subst gs;have k0:=gb i M 0 _ rfl;have k1:=gb i M 1 _ rfl;have k2:=gb i M 2 _ rfl;simp only[jP]at k0;have gj:=HZ.out _ (jC M);have U:=hid (jX M);clear gb;generalize l[i]=t at *;obtain⟨tk,tt,tp⟩:=t;simp only at k0 k1 k2 gj;by_cases h3:tk=3
   ·subst h3;have D:mV ⟨3,tt,tp⟩=true:=rfl;have h:=hid (show R1=some ⟨3,tt,tp⟩by rw[<-O.out,U.out,qv (by show _=true;rw[D])]);clear O;clear D;(go_wp2_with fail);go_ret2;rw[ga.out,h.out];exact⟨rfl,mP⟩
   (have e3:(tk==3)=false:=by rw[gF];exact h3);by_cases h6:tk=6
   ·subst h6;have gp:=hid (fun w'(hb:Below w w w')=>eZ rq (⟨#[32]⟩++tt++⟨#[32]⟩) w' (HT.out.below hb).tab (jB (show rq.size<=100 by decide +kernel) (by omega)));clear h3 e3;cases gh:Lib.contains rq.data.toList ((⟨#[32]⟩++tt++⟨#[32]⟩:ByteArray)).data.toList with
    |true=>(have D:mV ⟨6,tt,tp⟩=true:=by rw[mV];simp only;rw[gh];rfl);have h:=hid (show R1=some ⟨6,tt,tp⟩by rw[<-O.out,U.out,qv (by show _=true;rw[D])]);clear O;rw[gh]at gp;clear D gh;(go_wp2_with fail);refine(gp.out _ mP).mono ?_;rintro e w2⟨rfl,rfl⟩;(go_wp2_with fail);go_ret2;rw[ga.out,h.out];exact⟨rfl,mP⟩
    |false=>
     (have D:mV ⟨6,tt,tp⟩=false:=by rw[mV];simp only;rw[gh];rfl);have h:=hid (show(l.drop (i+1)).find? mV=R1 by rw[<-O.out,U.out,qw (by show ¬ _=true;rw[D];decide)]);clear O;rw[gh]at gp;clear D gh;(go_wp2_with fail);refine(gp.out _ mP).mono ?_;rintro e w2⟨rfl,rfl⟩;(go_wp2_with fail);go_roundg (l.length-(i+1))
     case measure=>omega
     case rel=>exact⟨i+1,by omega,d5 _,by go_num,mP,h.out⟩
   (have e6:(tk==6)=false:=by rw[gF];exact h6);by_cases h2:tk=2
   ·subst h2;clear h3 e3 h6 e6;cases yk:(tt.toList==[105,109,112,111,114,116])with
    |true=>(have D:mV ⟨2,tt,tp⟩=true:=by rw[mV];simp only;rw[yk];rfl);have h:=hid (show R1=some ⟨2,tt,tp⟩by rw[<-O.out,U.out,qv (by show _=true;rw[D])]);clear O;clear D;(go_wp2_with fail);go_ret2;rw[ga.out,h.out];exact⟨rfl,mP⟩
    |false=>
     (have D:mV ⟨2,tt,tp⟩=false:=by rw[mV];simp only;rw[yk];rfl);have h:=hid (show(l.drop (i+1)).find? mV=R1 by rw[<-O.out,U.out,qw (by show ¬ _=true;rw[D];decide)]);clear O;clear D;(go_wp2_with fail);go_roundg (l.length-(i+1))
     case measure=>omega
     case rel=>exact⟨i+1,by omega,d5 _,by go_num,mP,h.out⟩
   (have e2:(tk==2)=false:=by rw[gF];exact h2);(have D:mV ⟨tk,tt,tp⟩=false:=by rw[mV];simp only;rw[jD h3,jD h6,jD h2];rfl);have h:=hid (show(l.drop (i+1)).find? mV=R1 by rw[<-O.out,U.out,qw (by show ¬ _=true;rw[D];decide)]);clear O;clear D h3 h6 h2;(go_wp2_with fail);go_roundg (l.length-(i+1))
   case measure=>omega
   case rel=>exact⟨i+1,by omega,d5 _,by go_num,mP,h.out⟩
  ·(have ge:¬ (i:Int)<(l.length:Int):=by omega);have gm:Hid (R1=none):=hid (by rw[<-O.out,jU (by omega)];rfl);clear hi M O;(go_wp2_with fail);go_loopg [7,8,9,46] l.length (fun g _ _ _ u46 wy=>∃i:Nat,i<=l.length/\l.length-i<=g/\u46=.int .i64 (i:Int)/\Below w w wy/\(l.drop i).find? l9=R2)
   case atStart=>exact⟨0,gP _,by omega,rfl,hB,gt.out⟩
   case round=>
    clear ge hB gt;obtain⟨i,hi,hg,rfl,hB,hq⟩:=hrel;have O:=hid hq;clear hq;by_cases M:i<l.length
    ·(have ge:(i:Int)<(l.length:Int):=by omega);have gx:=hB.size;(have h0:(0:Int)<=(i:Int):=by omega);obtain⟨bk,off,gs,gv,gb⟩:=(HR.out.below hB).el fZ (by omega) rfl M;subst gs;have k0:=gb i M 0 _ rfl;have k1:=gb i M 1 _ rfl;have k2:=gb i M 2 _ rfl;simp only[jP]at k0;have gj:=HZ.out _ (jC M);have U:=hid (jX M);clear gb;generalize l[i]=t at *;obtain⟨tk,tt,tp⟩:=t;simp only at k0 k1 k2 gj;by_cases h4:tk=4
     ·subst h4;have gn:=hid (fun w'=>wR tt w' gj);cases J:lA tt with
      |some x=>
       (have D:l9 ⟨4,tt,tp⟩=false:=by rw[l9];simp only;rw[J];rfl);have h:=hid (show(l.drop (i+1)).find? l9=R2 by rw[<-O.out,U.out,qw (by show ¬ _=true;rw[D];decide)]);clear O;rw[J]at gn;clear D J;(go_wp2_with fail);refine(gn.out _).mono ?_;rintro e w2⟨I,rfl⟩;have N:Below w w w2:=Below.trans mP (I.mono (by simp;omega));have gg:=N.size;(go_wp2_with fail);go_roundg (l.length-(i+1))
       case measure=>omega
       case rel=>exact⟨i+1,by omega,d5 _,by go_num,N,h.out⟩
      |none=>(have D:l9 ⟨4,tt,tp⟩=true:=by rw[l9];simp only;rw[J];rfl);have h:=hid (show R2=some ⟨4,tt,tp⟩by rw[<-O.out,U.out,qv (by show _=true;rw[D])]);clear O;rw[J]at gn;clear D J;(go_wp2_with fail);refine(gn.out _).mono ?_;rintro e w2⟨I,n,hn,rfl⟩;have N:Below w w w2:=Below.trans mP (I.mono (by simp;omega));have gg:=N.size;have gd:=(au.new wr 43 #[.int .i64 4,.string tt,.int .i64 tp]).below I (by simp);have z2:w2.cell? ⟨wr,2,none⟩=some (.int .i64 tp):=(gd.cell 2).trans rfl;(have yk:(n != 0)=true:=by rw[kU];exact hn);clear I gd hn;(go_wp2_with fail);go_ret2;rw[ga.out,gm.out,h.out];exact⟨rfl,N⟩
     (have e4:(tk==4)=false:=by rw[gF];exact h4);by_cases h5:tk=5
     ·subst h5;have gi:=hid (fun w'(gw:Below w w w')=>uA tt w' (HT.out.below gw) (by omega));clear h4;cases J:ec tt with
      |some x=>
       rw[J]at gi;by_cases gl:1000<x.size
       ·(have D:l9 ⟨5,tt,tp⟩=true:=by rw[l9];simp only;rw[J,Qz0];simp only[kN gl];rfl);(have hd:decide ((1000:Int)<(x.size:Int))=true:=by rw[gS];omega);have h:=hid (show R2=some ⟨5,tt,tp⟩by rw[<-O.out,U.out,qv (by show _=true;rw[D])]);clear O;clear D J gl;(go_wp2_with fail);refine(gi.out _ mP).mono ?_;rintro e w2⟨I,rfl⟩;have N:Below w w w2:=Below.trans mP (I.mono (by simp;omega));have gg:=N.size;have gd:=(au.new wr 43 #[.int .i64 5,.string tt,.int .i64 tp]).below I (by simp);have z2:w2.cell? ⟨wr,2,none⟩=some (.int .i64 tp):=(gd.cell 2).trans rfl;clear I gd;(go_wp2_with fail);go_ret2;rw[ga.out,gm.out,h.out];exact⟨rfl,N⟩
       ·(have D:l9 ⟨5,tt,tp⟩=false:=by rw[l9];simp only;rw[J,Qz0];simp only[jD gl];rfl);(have hd:decide ((1000:Int)<(x.size:Int))=false:=by rw[gK];omega);have h:=hid (show(l.drop (i+1)).find? l9=R2 by rw[<-O.out,U.out,qw (by show ¬ _=true;rw[D];decide)]);clear O;clear D J gl;(go_wp2_with fail);refine(gi.out _ mP).mono ?_;rintro e w2⟨I,rfl⟩;have N:Below w w w2:=Below.trans mP (I.mono (by simp;omega));have gg:=N.size;clear I;(go_wp2_with fail);go_roundg (l.length-(i+1))
        case measure=>omega
        case rel=>exact⟨i+1,by omega,d5 _,by go_num,N,h.out⟩
      |none=>(have D:l9 ⟨5,tt,tp⟩=true:=by rw[l9];simp only;rw[J];rfl);have h:=hid (show R2=some ⟨5,tt,tp⟩by rw[<-O.out,U.out,qv (by show _=true;rw[D])]);clear O;rw[J]at gi;clear D J;(go_wp2_with fail);refine(gi.out _ mP).mono ?_;rintro e w2⟨I,n,hn,rfl⟩;have N:Below w w w2:=Below.trans mP (I.mono (by simp;omega));have gg:=N.size;have gd:=(au.new wr 43 #[.int .i64 5,.string tt,.int .i64 tp]).below I (by simp);have z2:w2.cell? ⟨wr,2,none⟩=some (.int .i64 tp):=(gd.cell 2).trans rfl;(have yk:(n != 0)=true:=by rw[kU];exact hn);clear I gd hn;(go_wp2_with fail);go_ret2;rw[ga.out,gm.out,h.out];exact⟨rfl,N⟩
     (have e5:(tk==5)=false:=by rw[gF];exact h5);(have D:l9 ⟨tk,tt,tp⟩=false:=by rw[l9];simp only;rw[jD h4,jD h5];rfl);have h:=hid (show(l.drop (i+1)).find? l9=R2 by rw[<-O.out,U.out,qw (by show ¬ _=true;rw[D];decide)]);clear O;clear D h4 h5;(go_wp2_with fail);go_roundg (l.length-(i+1))
     case measure=>omega
     case rel=>exact⟨i+1,by omega,d5 _,by go_num,mP,h.out⟩
    ·(have ge:¬ (i:Int)<(l.length:Int):=by omega);have h:Hid (R2=none):=hid (by rw[<-O.out,jU (by omega)];rfl);(go_wp2_with fail);go_ret2;rw[ga.out,gm.out,h.out];exact⟨rfl,hB⟩
end
section
open Go.RowKit Go.Lib Go.Proofs
attribute [local go_sem ↓] Go.wp_at_zero Go.wp_at_succ
def cN(s:ByteArray):wQ:=match fR s with
 | .err p n=>.err p n
 | .toks L=>match pS L with
   |some q=>.err q.1 q.2
   |none=>.toks L
structure AW(E:co)(w:World)(s:ByteArray)(L:List cY):Prop where
 c:E.c=⟨L,(s.size:Int)⟩
 at_:aR E w ⟨0,false,-1⟩
 base:E.w0.heap.size<=E.R
 tab:mH E.w0
 small:∀t∈E.c.toks,t.text.size<=65536
 few:L.length<=65537
def Ig(s:ByteArray)(w:World)(r:wQ)(e:Ending)(w':World):Prop:=match r with
 | .err p n=>e=.returned (.tuple #[.pointer none,.int .i64 p,.int .i64 n])/\Below w w w'
 | .toks L=>∃E:co,e=.returned (.tuple #[E.R,.int .i64 0,.int .i64 0])/\AW E w' s L/\w.heap.size<=E.R/\Below w w w'
theorem DA{L:List cY}{q:Int×Int}(h:pS L=some q):q.2≠0:=by
 unfold pS L2 at h;split at h
 ·injection h with h;subst h;exact(by decide:(16:Int)≠0)
 ·split at h
  ·injection h with h;subst h;exact(by decide:(4:Int)≠0)
  ·cases h
theorem AX(A0:Option Addr)(c:Nat)(s:ByteArray)(w:World)(hv:fo w A0 c s)(hT:mH w)(h:s.size<=1000000000):
  Calls Tryz.prog 30 #[.slice A0 s.size c] w (Ig s w (cN s)):=by
 have HS:=hid (Di A0 c s w hv hT h);have HT:=hid hT;obtain⟨O,hO⟩:∃O,cN s=O:=⟨_,rfl⟩;rw[hO];have HO:=hid hO;clear hT hv hO;cases hs:fR s with
 |err p n=>have M:Hid (O=.err p n):=hid (by rw[<-HO.out,cN,hs]);have hn:=tU hs;(have N:(n != 0)=true:=by rw[kU];omega);rw[hs]at HS;clear HO hs hn;(go_enter Tryz.func30,Tryz.ntmps30);(go_wp2_with fail);refine HS.out.mono ?_;rintro e w1⟨rfl,hB⟩;(go_wp2_with fail);go_ret3;rw[M.out];exact⟨rfl,hB⟩
 |toks L=>
  have HZ:=hid (uy hs);have HL:=hid (show(match pS L with
   |some q=>wQ.err q.1 q.2
   |none=>.toks L)=O by rw[<-HO.out,cN,hs])
  rw[hs]at HS;clear HO hs;(go_enter Tryz.func30,Tryz.ntmps30);(go_wp2_with fail);refine HS.out.mono ?_;rintro e w1⟨A,cp,rfl,gb,U,hr,hB⟩;have ga:=hid (E3 A cp L w1 hr (by omega) (HT.out.below hB) HZ.out);have HR:=hid hr;clear HS hr;(go_wp2_with fail);refine ga.out.mono ?_;rintro e w2⟨rfl,J⟩;have I:=a8 hB J;have ge:=hid (HR.out.below J);clear ga HR;cases D:pS L with
  |some q=>have M:Hid (O=.err q.1 q.2):=hid (by rw[<-HL.out,D]);have hq:=DA D;(have N:(q.2 != 0)=true:=by rw[kU];exact hq);obtain⟨q1,q2⟩:=q;simp only at N M;clear hq D HL;unfold L3;simp only;(go_wp2_with fail);go_ret3;rw[M.out];exact⟨rfl,I⟩
  |none=>have M:Hid (O=.toks L):=hid (by rw[<-HL.out,D]);have gd:=hid (HT.out.below I);clear D HL;unfold L3;simp only;(go_wp2_with fail);go_ret3;rw[M.out];refine⟨⟨w2.heap.size,A,cp,⟨L,(s.size:Int)⟩,w2⟩,rfl,⟨rfl,⟨au.new _ _ _,?_,gP _,by show L.length<=1000000;omega,gb,fun b hb=>gW w2 _ b hb⟩,d5 _,gd.out,HZ.out,U⟩,I.size,I.alloc I.size _⟩;exact G6 (ge.out.below ((gG w1.heap.size w2).alloc J.size _)) J.size
def dQ(w:World)(g:Nat)(l:List ByteArray):Prop:=∀i(h:i<l.length),w.cell? ⟨g,i,none⟩=some (.string l[i])
theorem dQ.of_blk{w:World}{g:Nat}{t:TypeId}{l:List ByteArray}{C:Array Value}(e:C=(l.map Value.string).toArray)(h:au w g t C):dQ w g l:=by subst e;intro i hi;have:=h.cell i;rw[this];simp[hi]
theorem dQ.below{w w':World}{g:Nat}{l:List ByteArray}(h:dQ w g l)(hb:Below w w w'):dQ w' g l:=fun i hi=>cell_kept hb (h i hi)
theorem dQ.grown{w w':World}{R g:Nat}{l:List ByteArray}(h:dQ w g l)(D:w.grownBy w' (some R))(I:g≠R):dQ w' g l:=fun i hi=>D.cell (h i hi) (fun e=>I (by injection e))
def Sj(l:List ByteArray)(x:ByteArray)(w:World)(e:Ending)(w':World):Prop:=∃r:Int,e=.returned (.int .i64 r)/\decide (0<=r)=(l.any fun y=>decide (x=y))/\w=w'
theorem Sk(x:ByteArray)(l:List ByteArray)(g c:Nat)(w:World)(hl:l.length<=1000)(h:dQ w g l):
  Calls Tryz.prog 139 #[.slice (some ⟨g,0,none⟩) l.length c,.string x] w (Sj l x w):=by
 have H:=hid h;clear h;(go_enter Tryz.func139,Tryz.ntmps139);(go_wp2_with fail);go_loopg [5,8] l.length (fun k _ u8 wr=>∃i:Nat,i<=l.length/\l.length-i<=k/\u8=.int .i64 (i:Int)/\w=wr/\(l.take i).any (fun y=>decide (x=y))=false)
 case atStart=>exact⟨0,gP _,by omega,rfl,rfl,rfl⟩
 case round=>
  obtain⟨i,hi,hk,rfl,rfl,N⟩:=hrel;by_cases D:i<l.length
  ·(have J:(i:Int)<(l.length:Int):=by omega);(have h0:(0:Int)<=(i:Int):=by omega);have hc:=H.out i D;have U:=hid (show(l.take (i+1)).any (fun y=>decide (x=y))=decide (x=l[i])by rw[kF D,List.any_append,N];simp);have HA:Hid (decide (x=l[i])=true->l.any (fun y=>decide (x=y))=true):=hid (by intro hd;rw[vq];exact⟨_,jC D,hd⟩);clear N;generalize l[i]=y at *;cases I:decide (x=y)with
   |true=>(have O:(x.toList==y.toList)=true:=by rw[dF];simpa using I);have M:=hid (HA.out I);clear I HA U;(go_wp2_with fail);go_ret;exact⟨(i:Int),rfl,by rw[M.out];simp,rfl⟩
   |false=>
    (have O:(x.toList==y.toList)=false:=by rw[dF];simpa using I);have M:=hid (U.out.trans I);clear I HA U;(go_wp2_with fail);go_roundg (l.length-(i+1))
    case measure=>omega
    case rel=>exact⟨i+1,by omega,d5 _,by go_num,rfl,M.out⟩
  ·(have J:¬ (i:Int)<(l.length:Int):=by omega);have M:Hid (l.any (fun y=>decide (x=y))=false):=hid (by rw[<-N,jK (by omega)]);clear N;(go_wp2_with fail);go_ret;exact⟨-1,rfl,by rw[M.out];rfl,rfl⟩
theorem Pr(x:ByteArray)(l:List ByteArray)(g c:Nat)(w:World)(N:l.length<=1000)(h:dQ w g l):
  Calls Tryz.prog 93 #[.slice (some ⟨g,0,none⟩) l.length c,.string x] w fun e w'=>e=.returned (.bool (l.any fun y=>decide (x=y)))/\w=w':=by
 have M:=hid (Sk x l g c w N h);obtain⟨bb,D⟩:∃bb,bb=l.any fun y=>decide (x=y):=⟨_,rfl⟩
 rw[<-D];have I:=hid D;clear h D;(go_enter Tryz.func93,Tryz.ntmps93);(go_wp2_with fail);refine M.out.mono ?_;rintro e w'⟨r,rfl,J,rfl⟩;have O:=hid (I.out.trans J.symm);clear J M I;(go_wp2_with fail);go_ret;exact⟨by rw[O.out];rfl,rfl⟩
structure DN(w:World)(a b c d e:Nat):Prop where
 l0:dQ w a (EA 5)
 l1:dQ w b (EA 4)
 l2:dQ w c (EA 3)
 l3:dQ w d (EA 2)
 l4:dQ w e (EA 1)
theorem DN.below{w w':World}{a b c d e:Nat}(h:DN w a b c d e)(hb:Below w w w'):DN w' a b c d e:=
 ⟨h.l0.below hb,h.l1.below hb,h.l2.below hb,h.l3.below hb,h.l4.below hb⟩
def Mt(a b c d e:Nat):Value:=.agg #[.slice (some ⟨a,0,none⟩) 1 1,.slice (some ⟨b,0,none⟩) 1 1,.slice (some ⟨c,0,none⟩) 6 6,.slice (some ⟨d,0,none⟩) 2 2,.slice (some ⟨e,0,none⟩) 3 3]
def Ps(w:World)(e:Ending)(w':World):Prop:=∃a b c d f:Nat,e=.returned (Mt a b c d f)/\DN w' a b c d f/\(w.heap.size<=a/\w.heap.size<=b/\w.heap.size<=c/\w.heap.size<=d/\w.heap.size<=f)/\Below w w w'
theorem yl(w:World):Calls Tryz.prog 91 #[] w (Ps w):=by(go_enter Tryz.func91,Tryz.ntmps91);(go_wp2_with fail);have hb:Below w w ((((((w.alloc (.cells #[.slice (some ⟨w.heap.size+1,0,none⟩) 1 1,.slice (some ⟨w.heap.size+1+1,0,none⟩) 1 1,.slice (some ⟨w.heap.size+1+1+1,0,none⟩) 6 6,.slice (some ⟨w.heap.size+1+1+1+1,0,none⟩) 2 2,.slice (some ⟨w.heap.size+1+1+1+1+1,0,none⟩) 3 3] 96)).alloc (.cells #[.string ⟨#[124,124]⟩] 9)).alloc (.cells #[.string ⟨#[38,38]⟩] 9)).alloc (.cells #[.string ⟨#[61,61]⟩,.string ⟨#[33,61]⟩,.string ⟨#[60]⟩,.string ⟨#[60,61]⟩,.string ⟨#[62]⟩,.string ⟨#[62,61]⟩] 9)).alloc (.cells #[.string ⟨#[43]⟩,.string ⟨#[45]⟩] 9)).alloc (.cells #[.string ⟨#[42]⟩,.string ⟨#[47]⟩,.string ⟨#[37]⟩] 9)):=bel;have N:au ((w.alloc (.cells #[.slice (some ⟨w.heap.size+1,0,none⟩) 1 1,.slice (some ⟨w.heap.size+1+1,0,none⟩) 1 1,.slice (some ⟨w.heap.size+1+1+1,0,none⟩) 6 6,.slice (some ⟨w.heap.size+1+1+1+1,0,none⟩) 2 2,.slice (some ⟨w.heap.size+1+1+1+1+1,0,none⟩) 3 3] 96)).alloc (.cells #[.string ⟨#[124,124]⟩] 9)) (w.heap.size+1) 9 #[.string ⟨#[124,124]⟩]:=au.new_at (by simp) _ _;have M:au (((w.alloc (.cells #[.slice (some ⟨w.heap.size+1,0,none⟩) 1 1,.slice (some ⟨w.heap.size+1+1,0,none⟩) 1 1,.slice (some ⟨w.heap.size+1+1+1,0,none⟩) 6 6,.slice (some ⟨w.heap.size+1+1+1+1,0,none⟩) 2 2,.slice (some ⟨w.heap.size+1+1+1+1+1,0,none⟩) 3 3] 96)).alloc (.cells #[.string ⟨#[124,124]⟩] 9)).alloc (.cells #[.string ⟨#[38,38]⟩] 9)) (w.heap.size+1+1) 9 #[.string ⟨#[38,38]⟩]:=au.new_at (by simp) _ _;have J:=au.new_at (w:=((w.alloc (.cells #[.slice (some ⟨w.heap.size+1,0,none⟩) 1 1,.slice (some ⟨w.heap.size+1+1,0,none⟩) 1 1,.slice (some ⟨w.heap.size+1+1+1,0,none⟩) 6 6,.slice (some ⟨w.heap.size+1+1+1+1,0,none⟩) 2 2,.slice (some ⟨w.heap.size+1+1+1+1+1,0,none⟩) 3 3] 96)).alloc (.cells #[.string ⟨#[124,124]⟩] 9)).alloc (.cells #[.string ⟨#[38,38]⟩] 9)) (n:=w.heap.size+1+1+1) (by simp) 9 #[.string ⟨#[61,61]⟩,.string ⟨#[33,61]⟩,.string ⟨#[60]⟩,.string ⟨#[60,61]⟩,.string ⟨#[62]⟩,.string ⟨#[62,61]⟩];have I:=au.new_at (w:=(((w.alloc (.cells #[.slice (some ⟨w.heap.size+1,0,none⟩) 1 1,.slice (some ⟨w.heap.size+1+1,0,none⟩) 1 1,.slice (some ⟨w.heap.size+1+1+1,0,none⟩) 6 6,.slice (some ⟨w.heap.size+1+1+1+1,0,none⟩) 2 2,.slice (some ⟨w.heap.size+1+1+1+1+1,0,none⟩) 3 3] 96)).alloc (.cells #[.string ⟨#[124,124]⟩] 9)).alloc (.cells #[.string ⟨#[38,38]⟩] 9)).alloc (.cells #[.string ⟨#[61,61]⟩,.string ⟨#[33,61]⟩,.string ⟨#[60]⟩,.string ⟨#[60,61]⟩,.string ⟨#[62]⟩,.string ⟨#[62,61]⟩] 9)) (n:=w.heap.size+1+1+1+1) (by simp) 9 #[.string ⟨#[43]⟩,.string ⟨#[45]⟩];have D:=au.new_at (w:=((((w.alloc (.cells #[.slice (some ⟨w.heap.size+1,0,none⟩) 1 1,.slice (some ⟨w.heap.size+1+1,0,none⟩) 1 1,.slice (some ⟨w.heap.size+1+1+1,0,none⟩) 6 6,.slice (some ⟨w.heap.size+1+1+1+1,0,none⟩) 2 2,.slice (some ⟨w.heap.size+1+1+1+1+1,0,none⟩) 3 3] 96)).alloc (.cells #[.string ⟨#[124,124]⟩] 9)).alloc (.cells #[.string ⟨#[38,38]⟩] 9)).alloc (.cells #[.string ⟨#[61,61]⟩,.string ⟨#[33,61]⟩,.string ⟨#[60]⟩,.string ⟨#[60,61]⟩,.string ⟨#[62]⟩,.string ⟨#[62,61]⟩] 9)).alloc (.cells #[.string ⟨#[43]⟩,.string ⟨#[45]⟩] 9)) (n:=w.heap.size+1+1+1+1+1) (by simp) 9 #[.string ⟨#[42]⟩,.string ⟨#[47]⟩,.string ⟨#[37]⟩];refine jL (v:=Mt (w.heap.size+1) (w.heap.size+1+1) (w.heap.size+1+1+1) (w.heap.size+1+1+1+1) (w.heap.size+1+1+1+1+1)) (by simp[results,Mt,Tryz.results91,go_sem]) rfl ?_;exact⟨_,_,_,_,_,rfl,⟨dQ.of_blk rfl ((((N.alloc _).alloc _).alloc _).alloc _),dQ.of_blk rfl (((M.alloc _).alloc _).alloc _),dQ.of_blk rfl ((J.alloc _).alloc _),dQ.of_blk rfl (I.alloc _),dQ.of_blk rfl D⟩,⟨by omega,by omega,by omega,by omega,by omega⟩,hb⟩
end
end Go.Proofs.YtiebcdeafofgdaaGreatDoor
