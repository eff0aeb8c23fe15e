/-
  Parts of the proof: Rpost Rloop Rtdecl Tkit Onum Mlib Grow. By an AI agent.
-/
import Derived.Test.YtcoiialmdncpfaaGreatDoorJ07
import Derived.Test.YtcoiialmdncpfaaGreatDoorJ06
import Derived.Test.YtcoiialmdncpfaaGreatDoorJ02
import Derived.Test.YtcoiialmdncpfaaGreatDoorJ01
import Derived.Test.YtcoiialmdncpfaaGreatDoorJ04
import Derived.Test.YtcoiialmdncpfaaGreatDoorJ00
import Derived.Test.YtcoiialmdncpfaaGreatDoorJ03
import Derived.Deep.DeepCutAuto
import Derived.Shelf.Strconv.AtoiAll
import Derived.Shelf.Strconv.Itoa3
import Derived.Lib.AtoiAllCases
import Derived.Lib.UnsafeStr
open Go.Proofs.Tryz
set_option maxRecDepth 100000
set_option maxHeartbeats 8000000
namespace Go.Proofs.YtcoiialmdncpfaaGreatDoor
section
open Go.RowKit Go.Lib Go.Proofs
attribute [local go_sem ↓] Go.wp_at_zero Go.wp_at_succ
attribute [local go_sem] aK aL aM aZ a6 a7 a8
theorem qB:type_of% @Option.bind_some:=@Option.bind_some
theorem qI:type_of% @Go.results_none:=@Go.results_none
def uE(E:bC)(F:eQ):Prop:=∀s x s1,F.expr E.c s=.ok x s1->s.at_<E.c.toks.length
theorem Ih(E:bC)(F:eQ)(hF:mC E F)(hR:uC E F)(hX:uE E F):dp E (mz F) 311:=by
 intro w s h hno;generalize hres:mz F E.c s=res at *;have gb:=hid hres;have gu:=hid hno;have z:=h.lt;have gn:=h.most;have gk:aa (w.alloc (.cells bg 41)) w.heap.size 41 bg:=aa.new w _ _;have J:au E s w (w.alloc (.cells bg 41)):=(au.refl h).alloc _;obtain⟨c0,c1,c2,c3,c4,cf⟩:=h.cells;have gm:=ve z;clear hres hno cf;have HE:=hid (show(iz F E.c s).bind (fun x s1=>if x.kind=26 then .fail (aj E.c (s.at_+1)).pos else .ok x s1)=res from gb.out);clear gb;(have gy:w.heap.size+1<=(w.alloc (.cells bg 41)).heap.size:=by simp);(go_enter func311,ntmps311);go_wp2_with fail;cases D:iz F E.c s with
 |out=>exact absurd HE.out.symm (by rw[D];exact gu.out)
 |fail q=>refine(pG E F hF hR _ s J.rd (by rw[D];exact nofun)).mono ?_;rw[D];rintro e w3⟨rfl,gp⟩;unfold ag;exact⟨rfl,af (by rw[<-HE.out,D];rfl) J.gr gp⟩
 | ok n s1=>
  have y:=hid (show(if n.kind=26 then .fail (aj E.c (s.at_+1)).pos else .ok n s1)=res by rw[<-HE.out,D];rfl);have g0:s.at_<E.c.toks.length:=by
   unfold iz at D;cases hx:F.expr E.c s with
   |ok x s2=>exact hX s x s2 hx
   |fail p=>rw[hx]at D;cases D
   |out=>rw[hx]at D;cases D
  refine(pG E F hF hR _ s J.rd (by rw[D];exact nofun)).mono ?_;rw[D];rintro e w3⟨⟨v,rfl,hv⟩,M⟩;obtain⟨A3,I,rfl,gt⟩:=hv.toC;have gj:=gk.grown M.gr;have O:=J.trans M;have gx:=M.gr.size;have gh:=aa.new w3 41 #[n.kind,n.text,.slice A3 n.kids.length I,n.pos];have gs:=O.alloc (.cells #[n.kind,n.text,.slice A3 n.kids.length I,n.pos] 41);have ge:=gj.alloc (.cells #[n.kind,n.text,.slice A3 n.kids.length I,n.pos] 41);have ga:=(cH w3 #[n.kind,n.text,.slice A3 n.kids.length I,n.pos]).1;have gi:=hv.keep (w':=w3.alloc (.cells #[n.kind,n.text,.slice A3 n.kids.length I,n.pos] 41)) fun b _ hlt=>ga.block b hlt;clear D HE hv gt J gj gk M ga c0 c1 c2 c3 c4 gm;obtain⟨x0,x1,x2,x3,-,-,-,-⟩:=ah gh;obtain⟨d0,d1,d2,d3,e0,e1,e2,e3⟩:=ah ge;by_cases hk:n.kind=26
  ·have HF:Hid (res=.fail (aj E.c (s.at_+1)).pos):=hid (by rw[<-y.out,gL hk]);obtain⟨y0,y1,y2,y3,y4,yf⟩:=O.rd.cells;have gg:=O.rd.lt;have gv:=ve gg;have gw:=yf 1;have q1:IntKind.i64.wrap ((s.at_:Int)+1)=(s.at_:Int)+1:=gQ _ (by omega);have gd:=(O.setAt (s.at_+1) (by omega)).alloc (.cells #[n.kind,n.text,.slice A3 n.kids.length I,n.pos] 41);(have gl:((s.at_+1:Nat):Int)=(s.at_:Int)+1:=by omega);rw[gl,hk]at gd;clear gh ge gi yf gl y;go_wp2_with fail;refine(dh E _ _ gd.rd).mono ?_;rintro e w6⟨rfl,gq⟩;unfold ag;exact⟨rfl,af HF.out gd.gr (ac _ gq)⟩
  ·have HF:Hid (res=.ok n s1):=hid (by rw[<-y.out,gE hk]);(have gz:(n.kind==26)=false:=by simp[hk]);clear hk y;go_wp2_with fail;refine av HF.out gi gs ge (gA _) z ?_ rfl (by rfl) rfl;intro b hb;constructor<;>omega
def pH(F:eQ)(a b:Nd):R (Nd×Nd×Nd):=fun c s=>(need ⟨#[59]⟩ c s).bind fun _ s3=>(if aR c s3 ⟨#[123]⟩then .ok cj s3 else cV (mz F) c s3).bind fun d s4=>.ok (a,b,d) s4
def sT(F:eQ)(a:Nd):R (Nd×Nd×Nd):=fun c s=>(need ⟨#[59]⟩ c s).bind fun _ s1=>(if aR c s1 ⟨#[59]⟩then .ok cj s1 else cV F.expr c s1).bind fun b s2=>pH F a b c s2
theorem Ii(F:eQ)(c:Cx)(s:St):nK F c s=if aR c s ⟨#[59]⟩then sT F cj c s else(cV (fH F) c s).bind fun x s1=>if x.kind=29 then .fail (ar c s1)else if x.kind<26 then .ok (cj,x,cj) s1 else sT F x c s1:=rfl
structure d9(R K:Nat)(w w':World):Prop where
 os:w'.os=w.os
 tape:w'.tape=w.tape
 output:w'.output=w.output
 size:w.heap.size<=w'.heap.size
 block:∀k,k<w.heap.size->k≠R->k≠K->w'.heap[k]? = w.heap[k]?
section
variable {R K:Nat} {w w1 w2:World}
theorem d9.refl(R K:Nat)(w:World):d9 R K w w:=⟨rfl,rfl,rfl,gA _,fun _ _ _ _=>rfl⟩
theorem d9.step(h:d9 R K w w1)(D:w1.grownBy w2 (some R)):d9 R K w w2:=
 ⟨D.os.trans h.os,D.tape.trans h.tape,D.output.trans h.output,gM h.size D.size,fun k hk h1 h2=>(D.block k (jY hk h.size) (fun e=>h1 (by injection e))).trans (h.block k hk h1 h2)⟩
theorem d9.below(h:d9 R K w w1)(D:Below w1 w1 w2):d9 R K w w2:=h.step (ac _ D)
theorem d9.put(h:d9 R K w w1)(o:Nat)(a b c d:Value):d9 R K w (eO w1 K o a b c d):=
 ⟨h.os,h.tape,h.output,by rw[uB];exact h.size,fun k hk h1 h2=>((dB (wk:=w1) (K:=K) (o:=o) (a:=a) (b:=b) (c:=c) (d:=d) (X:=fun b=>b≠K) (fun _ hb=>hb)).block k h2 (jY hk h.size)).trans (h.block k hk h1 h2)⟩
theorem d9.grown{w0:World}(D:w0.grownBy w (some R))(I:w0.heap.size<=K)(h:d9 R K w w1):w0.grownBy w1 (some R):=
 ⟨h.os.trans D.os,h.tape.trans D.tape,h.output.trans D.output,gM D.size h.size,fun k hk hne=>(h.block k (jY hk D.size) (fun e=>hne (by rw[e])) (by omega)).trans (D.block k hk hne)⟩
end
theorem aH.put{E:bC}{w:World}{s:St}(h:aH E w s){K:Nat}(D:E.R<K)(o:Nat)(a b c d:Value):aH E (eO w K o a b c d) s:=
 h.keep fun b hb=>(dB (wk:=w) (K:=K) (o:=o) (X:=fun b=>b≠K) (fun _ hb=>hb)).block b (by omega) (by have:=h.lt;omega)
abbrev rl(n:Nd)(A:Option Addr)(c:Nat):List Value:=[.int .i64 n.kind,.string n.text,.slice A n.kids.length c,.int .i64 n.pos]
abbrev pj:List Value:=[.int .i64 0,.string ⟨#[]⟩,.slice none 0 0,.int .i64 0]
def uF(E:bC)(K:Nat)(w:World)(r:d5 (Nd×Nd×Nd))(e:Ending)(w':World):Prop:=
 match r with
 | .ok (a,b,d) s=>e=.returned (.tuple #[])/\aH E w' s/\d9 E.R K w w'/\∃ca cb cd,aa w' K 41 (ca++cb++cd++pj).toArray/\aY (fun b=>w.heap.size<=b) w' a ca/\aY (fun b=>w.heap.size<=b) w' b cb/\aY (fun b=>w.heap.size<=b) w' d cd
 | .fail p=>e=ag p/\d9 E.R K w w'
 | .out=>False
theorem lF{E:bC}{K:Nat}{w w':World}{res:d5 (Nd×Nd×Nd)}{p:Int}(D:res=.fail p)(I:d9 E.R K w w'):uF E K w res (ag p) w':=by subst D;exact⟨rfl,I⟩
theorem sx{w:World}{g o:Nat}{t:TypeId}{cs:Array Value}{a b c d:Value}(h:aa w g t cs)(I:cs[o]? = some a)(hb:cs[o+1]? = some b)(D:cs[o+2]? = some c)(hd:cs[o+3]? = some d):
  w.cell? ⟨g,o,none⟩=some a/\w.cell? ⟨g,o+1,none⟩=some b/\w.cell? ⟨g,o+2,none⟩=some c/\w.cell? ⟨g,o+3,none⟩=some d/\(w.frozen? ⟨g,o,none⟩=false/\w.frozen? ⟨g,o+1,none⟩=false/\w.frozen? ⟨g,o+2,none⟩=false/\w.frozen? ⟨g,o+3,none⟩=false):=
 ⟨(h.cell _).trans I,(h.cell _).trans hb,(h.cell _).trans D,(h.cell _).trans hd,h.frozen _,h.frozen _,h.frozen _,h.frozen _⟩
def ye(E:bC)(K L:Nat)(w:World)(s:St)(a b d:Nd)(w1:World):Prop:=
 aH E w1 s/\d9 E.R K w w1/\w1.cell? ⟨L,2,none⟩=some (.slice (some ⟨K,0,none⟩) 4 4)/\∃A1 c1 A2 c2 A3 c3,aa w1 K 41 (rl a A1 c1++rl b A2 c2++rl d A3 c3++pj).toArray /\
  aY (fun b=>w.heap.size<=b) w1 a (rl a A1 c1)/\aY (fun b=>w.heap.size<=b) w1 b (rl b A2 c2)/\aY (fun b=>w.heap.size<=b) w1 d (rl d A3 c3)
section
variable {E:bC} {K L:Nat} {w:World} {s:St} {a b d:Nd} {w1 w2:World}
theorem ye.step(h:ye E K L w s a b d w1){s':St}(D:au E s' w1 w2)(M:E.R<K)(O:K<w.heap.size)(J:L≠E.R):ye E K L w s' a b d w2:=by obtain⟨-,gk,lc,A1,c1,A2,c2,A3,c3,q,z,y,x⟩:=h;have I:=(ak.of_grown (X:=fun b=>w.heap.size<=b) D.gr).block;exact⟨D.rd,gk.step D.gr,D.gr.cell lc (fun e=>J (by injection e)),A1,c1,A2,c2,A3,c3,q.grown D.gr,z.keep I,y.keep I,x.keep I⟩
theorem ye.drew(h:ye E K L w s a b d w1):ye E K L w s a b d w1.drew:=by obtain⟨rd,gk,lc,x,c1,q,c2,O,c3,D,M,J,I⟩:=h;exact⟨rd.drew,gk.below (gC _ _).drew,lc,x,c1,q,c2,O,c3,D.drew,M.keep (w:=w1) (w':=w1.drew) (fun _ _ _=>rfl),J.keep (w:=w1) (w':=w1.drew) (fun _ _ _=>rfl),I.keep (w:=w1) (w':=w1.drew) (fun _ _ _=>rfl)⟩
theorem ye.putK(h:ye E K L w s a b d w1)(I:E.R<K)(J:L≠K)(M:K<w.heap.size)(o:Nat)(p q r t:Value):
  aH E (eO w1 K o p q r t) s/\d9 E.R K w (eO w1 K o p q r t)/\(eO w1 K o p q r t).cell? ⟨L,2,none⟩=some (.slice (some ⟨K,0,none⟩) 4 4) /\
   ∀n cs,aY (fun b=>w.heap.size<=b) w1 n cs->aY (fun b=>w.heap.size<=b) (eO w1 K o p q r t) n cs:=by obtain⟨rd,gk,lc,-⟩:=h;have D:=(dB (wk:=w1) (K:=K) (o:=o) (a:=p) (b:=q) (c:=r) (d:=t) (X:=fun b=>b≠K) (fun _ hb=>hb)).block;exact⟨rd.put I o p q r t,gk.put o p q r t,(jM (a:=⟨L,2,none⟩) (D L J (gU _ _ lc))).trans lc,fun n cs h=>h.keep fun b hb hlt=>D b (by have hb:w.heap.size<=b:=hb;omega) hlt⟩
theorem ye.put0(h:ye E K L w s a b d w1)(D:E.R<K)(I:L≠K)(J:K<w.heap.size){n:Nd}{A:Option Addr}{c:Nat}(x:aY (fun b=>w.heap.size<=b) w1 n (rl n A c)):
  ye E K L w s n b d (eO w1 K 0 (.int .i64 n.kind) (.string n.text) (.slice A n.kids.length c) (.int .i64 n.pos)):=by obtain⟨q,O,M,kf⟩:=h.putK D I J 0 (.int .i64 n.kind) (.string n.text) (.slice A n.kids.length c) (.int .i64 n.pos);obtain⟨-,-,-,A1,c1,A2,c2,A3,c3,y,h1,h2,z⟩:=h;exact⟨q,O,M,A,c,A2,c2,A3,c3,by simpa using eJ (o:=0) (a:=.int .i64 n.kind) (b:=.string n.text) (c:=.slice A n.kids.length c) (d:=.int .i64 n.pos) y,kf _ _ x,kf _ _ h2,kf _ _ z⟩
theorem ye.put1(h:ye E K L w s a b d w1)(D:E.R<K)(I:L≠K)(J:K<w.heap.size){n:Nd}{A:Option Addr}{c:Nat}(x:aY (fun b=>w.heap.size<=b) w1 n (rl n A c)):
  ye E K L w s a n d (eO w1 K 4 (.int .i64 n.kind) (.string n.text) (.slice A n.kids.length c) (.int .i64 n.pos)):=by obtain⟨q,O,M,kf⟩:=h.putK D I J 4 (.int .i64 n.kind) (.string n.text) (.slice A n.kids.length c) (.int .i64 n.pos);obtain⟨-,-,-,A1,c1,A2,c2,A3,c3,y,h1,h2,z⟩:=h;exact⟨q,O,M,A1,c1,A,c,A3,c3,by simpa using eJ (o:=4) (a:=.int .i64 n.kind) (b:=.string n.text) (c:=.slice A n.kids.length c) (d:=.int .i64 n.pos) y,kf _ _ h1,kf _ _ x,kf _ _ z⟩
theorem ye.put2(h:ye E K L w s a b d w1)(D:E.R<K)(I:L≠K)(J:K<w.heap.size){n:Nd}{A:Option Addr}{c:Nat}(x:aY (fun b=>w.heap.size<=b) w1 n (rl n A c)):
  ye E K L w s a b n (eO w1 K 8 (.int .i64 n.kind) (.string n.text) (.slice A n.kids.length c) (.int .i64 n.pos)):=by obtain⟨q,O,M,kf⟩:=h.putK D I J 8 (.int .i64 n.kind) (.string n.text) (.slice A n.kids.length c) (.int .i64 n.pos);obtain⟨-,-,-,A1,c1,A2,c2,A3,c3,y,h1,z,h3⟩:=h;exact⟨q,O,M,A1,c1,A2,c2,A,c,by simpa using eJ (o:=8) (a:=.int .i64 n.kind) (b:=.string n.text) (c:=.slice A n.kids.length c) (d:=.int .i64 n.pos) y,kf _ _ h1,kf _ _ z,kf _ _ x⟩
theorem ye.fin{res:d5 (Nd×Nd×Nd)}(h:ye E K L w s a b d w1)(D:res=.ok (a,b,d) s):uF E K w res (.returned (.tuple #[])) w1:=by obtain⟨rd,gk,-,y,c1,x,c2,q,c3,I,O,M,J⟩:=h;subst D;exact⟨rfl,rd,gk,_,_,_,I,O,M,J⟩
end
theorem Ij(E:bC)(F:eQ)(hF:mC E F)(hR:uC E F)(hX:uE E F)(K L:Nat)(s:St)(w:World)(h:aH E w s)(z:E.R<K)(D:K<w.heap.size)(ga:L≠K)(gd:L≠E.R)(_hLlt:L<w.heap.size)
  (g4:w.cell? ⟨L,2,none⟩=some (.slice (some ⟨K,0,none⟩) 4 4))(g5:aa w K 41 (pj++pj++pj++pj).toArray)(g1:nK F E.c s≠.out):
  Calls prog 298 #[E.R,L] w (uF E K w (nK F E.c s)):=by
 generalize hres:nK F E.c s=res at *;rw[Ii]at hres;have gk:=hid hres;have gz:=hid g1;have hj:=h.lt;have hf:=h.most;clear hres g1;have he:∀w0,Go.RowKit.Hid (eu E 207 (#[.pointer (some ⟨E.R,0,none⟩)] ++ #[]) F.expr w0):=fun w0=>hid (hF.expr.part w0);have hc:∀w0,Go.RowKit.Hid (eu E 310 (#[.pointer (some ⟨E.R,0,none⟩)] ++ #[]) (fH F) w0):=fun w0=>hid ((Dz E F hF hR).part w0);have ha:∀w0,Go.RowKit.Hid (eu E 311 (#[.pointer (some ⟨E.R,0,none⟩)] ++ #[]) (mz F) w0):=fun w0=>hid ((Ih E F hF hR hX).part w0);have g9:Hid (∀a w,(callFunc 207 a).run prog w=.ok (.enter 207 a) w):=hid (fun a w=>by kernel_rfl);have g8:Hid (∀a w,(callFunc 310 a).run prog w=.ok (.enter 310 a) w):=hid (fun a w=>by kernel_rfl);have g7:Hid (∀a w,(callFunc 311 a).run prog w=.ok (.enter 311 a) w):=hid (fun a w=>by kernel_rfl);have gu:=hid he;have gt:=hid hc;have gs:=hid ha;clear he hc ha;have HS:Hid (ye E K L w s cj cj cj w):=hid (⟨h,d9.refl E.R K w,g4,none,0,none,0,none,0,g5,dZ,dZ,dZ⟩);clear g4 g5;(go_enter func298,ntmps298);go_wp2_with fail;refine(bL E s ⟨#[59]⟩ _ h).mono ?_;generalize gg:aR E.c s ⟨#[59]⟩=b1;rintro e w2⟨rfl,hb⟩;have gq:=hid (HS.out.step ((au.refl h).step hb) z D gd);have gh:=hid gg;clear hb HS gg;(go_upto_if 7 with fail);go_cut [] (fun wx=>∃x y,ye E K L w y x cj cj wx/\sT F x E.c y=res)
 case first=>
  cases b1 with
  |true=>go_wp2_with fail;go_meet;exact⟨cj,s,gq.out,by rw[<-gk.out,gL gh.out]⟩
  | false=>
   have gm:=gq.out;have gv:=gm.1;have HE:=hid (show(cV (fH F) E.c s).bind (fun x y=>if x.kind=29 then .fail (ar E.c y)else if x.kind<26 then .ok (cj,x,cj) y else sT F x E.c y)=res by rw[<-gk.out,gE (by rw[gh.out];decide)]);clear gk gh gq;go_wp2_with fail;cases hQ:cV (fH F) E.c s with
   |out=>exact absurd HE.out.symm (by rw[hQ];exact gz.out)
   |fail q=>refine(dH E _ _ _ (fH F) s _ gv g8.out ((gt.out _).out) (by rw[hQ];exact nofun)).mono ?_;rw[hQ];rintro e w9⟨rfl,hh⟩;unfold ag;exact⟨rfl,lF (by rw[<-HE.out,hQ];rfl) (gm.2.1.step hh)⟩
   |ok x y=>
    have O:=hid (show(if x.kind=29 then .fail (ar E.c y)else if x.kind<26 then .ok (cj,x,cj) y else sT F x E.c y)=res by rw[<-HE.out,hQ];rfl);refine(dH E _ _ _ (fH F) s _ gv g8.out ((gt.out _).out) (by rw[hQ];exact nofun)).mono ?_;rw[hQ];rintro e w3⟨⟨v,rfl,hv⟩,hm⟩;obtain⟨A0,c0,rfl,gp⟩:=hv.toC;clear hQ HE;have gp:=gp.mono (Y:=fun b=>w.heap.size<=b) (fun b hb _=>by have hb:w2.heap.size<=b:=hb;have:=gm.2.1.size;omega);have gn:=gm.step hm z D gd;(go_upto_region 2 with fail);have g3:=(cH w3 (nv x A0 c0)).1;have bT:=(cH w3 (nv x A0 c0)).2;have gw:=(au.refl gn.1).step g3;have I:=gn.step gw z D gd;have g6:=(gp.keep (ak.of_grown (X:=fun b=>w.heap.size<=b) gw.gr).block).keep (w':=(w3.alloc (.cells (nv x A0 c0) 41)).drew) (w:=w3.alloc (.cells (nv x A0 c0) 41)) (fun _ _ _=>rfl);(have hl:w3.heap.size≠K:=by have:=gn.2.1.size;omega);clear gm gn hm gw gp hv gv g3;generalize w3.heap.size=T at *;change Code.wp _ _ _ _ (w3.alloc (.cells (nv x A0 c0) 41));generalize(w3.alloc (.cells (nv x A0 c0) 41))=w4 at *;obtain⟨y0,y1,y2,y3,-,-,-,-⟩:=ah bT;have gi:=I.1;by_cases ge:x.kind=29
    ·have HF:=hid (show res=.fail (ar E.c y)by rw[<-O.out,gL ge]);clear O;go_wp2_with fail;refine(dh E y _ gi).mono ?_;rintro e w9⟨rfl,hi⟩;unfold ag;exact⟨rfl,lF HF.out (I.2.1.below hi)⟩
    (have hn:(x.kind==29)=false:=by simp[ge]);obtain⟨lc,A1,c1,A2,c2,A3,c3,kb,-⟩:=I.2.2;have hk:K≠L:=ga.symm;have gb:=hid I.drew;clear I;by_cases g2:x.kind<26
    ·have M:=hid (show(.ok (cj,x,cj) y:d5 (Nd×Nd×Nd))=res by rw[<-O.out,gE ge,gL g2]);clear ge O;obtain⟨z0,z1,z2,z3,z4,z5,z6,z7⟩:=sx (o:=4) kb rfl rfl rfl rfl;go_wp2_with fail;(go_still_tail 6,(by kernel_rfl));all_goals(go_wp2_with fail);refine jD (qI rfl _ _ _) rfl ?_;exact(gb.out.put1 z ga D g6).fin M.out.symm
    have M:Hid (sT F x E.c y=res):=hid (by rw[<-O.out,gE ge,gE g2]);clear ge O;obtain⟨z0,z1,z2,z3,z4,z5,z6,z7⟩:=sx (o:=0) kb rfl rfl rfl rfl;go_wp2_with fail;(go_still_tail 6,(by kernel_rfl));all_goals(go_wp2_with fail);go_meet;exact⟨x,y,gb.out.put0 z ga D g6,M.out⟩
 case rest=>
  rename World=>wc;obtain⟨x,y,hS,hE⟩:=hcut;have rd:=hS.1;have HE:=hid hE;clear gq gh gk h;have HS:=hid hS;clear hS hE;go_wp2_with fail;cases hN:aR E.c y ⟨#[59]⟩with
  |false=>refine(dN E y _ _ rd hN).mono ?_;rintro e w3⟨rfl,hb⟩;unfold ag;exact⟨rfl,lF (by rw[<-HE.out,sT,need];simp[hN]) (HS.out.2.1.below hb)⟩
  | true=>
   refine(cW E y _ _ rd hN).mono ?_;rintro e w3⟨rfl,hm⟩;have gl:=hid (HS.out.step hm z D gd);have gj:=hm.rd;have O:=hid (show(if aR E.c (am y) ⟨#[59]⟩then .ok cj (am y)else cV F.expr E.c (am y)).bind (fun b s2=>pH F x b E.c s2)=res by rw[<-HE.out,sT,need];simp only[hN,kS,d5.bind_ok]);clear HE hN hm HS rd;go_wp2_with fail;refine(bL E (am y) ⟨#[59]⟩ _ gj).mono ?_;generalize gg:aR E.c (am y) ⟨#[59]⟩=b2;rintro e w4⟨rfl,hb⟩;have gb:=hid (gl.out.step ((au.refl gj).step hb) z D gd);have gh:=hid gg;clear hb gl gg gj;(go_upto_if 38 with fail);go_cut [] (fun wx=>∃b s2,ye E K L w s2 x b cj wx/\pH F x b E.c s2=res)
   case first=>
    cases b2 with
    |true=>go_wp2_with fail;go_meet;exact⟨cj,am y,gb.out,by rw[<-O.out,gL gh.out];rfl⟩
    | false=>
     have I:=gb.out;have M:=hid (show(cV F.expr E.c (am y)).bind (fun b s2=>pH F x b E.c s2)=res by rw[<-O.out,gE (by rw[gh.out];decide)]);clear O gh gb;have gi:=I.1;obtain⟨lc,A1,c1,A2,c2,A3,c3,kb,-⟩:=I.2.2;cases hQ:cV F.expr E.c (am y)with
     |out=>exact absurd M.out.symm (by rw[hQ];exact gz.out)
     |fail q=>have HF:Hid (res=.fail q):=hid (by rw[<-M.out,hQ];rfl);go_wp2_with fail;let SS:World->Prop:=fun w'=>w'.cell? ⟨L,2,none⟩=some (.slice (some ⟨K,0,none⟩) 4 4);have gy:SS w4.drew:=lc;(refine jS (S:=SS) (by kernel_rfl) gy ?_;intro J;refine dF 0 J ?_;refine dF 1 J ?_;refine dF 2 J ?_;refine dF 3 J ?_;refine dF 4 J ?_;refine dF 5 J ?_;refine dF 6 J ?_;refine yd 7 fun K hK=>?_;go_simp);refine(dH E _ _ _ F.expr (am y) _ gi.drew g9.out ((gu.out _).out) (by rw[hQ];exact nofun)).mono ?_;rw[hQ];rintro e w5⟨rfl,hg⟩;unfold ag;exact⟨rfl,lF HF.out (I.drew.2.1.step hg)⟩
     | ok n t=>
      have g0:Hid (pH F x n E.c t=res):=hid (by rw[<-M.out,hQ];rfl);have HC:=hid (fun W(hr:aH E W (am y))=>dH E _ _ _ F.expr (am y) W hr g9.out ((gu.out _).out) (by rw[hQ];exact nofun));rw[hQ]at HC;have gb:=hid I;clear M I;go_wp2_with fail;go_region_held3 (fun w'=>w'.cell? ⟨L,2,none⟩=some (.slice (some ⟨K,0,none⟩) 4 4))
       (first|with_reducible exact zL|exact lc|(rw[gG _ _ _ _ (by exact ga.symm),gG _ _ _ _ (by exact ga.symm),gG _ _ _ _ (by exact ga.symm),gG _ _ _ _ (by exact ga.symm)];exact zL))
       ((go_at_call 296;refine(HC.out _ gi.drew).mono ?_;rintro e w5⟨⟨v,rfl,hv⟩,hm⟩;obtain⟨A,c,rfl,hC⟩:=hv.toC;have zL:=hm.gr.cell (show w4.drew.cell? ⟨L,2,none⟩=_ from lc) (fun e=>gd (by injection e));have zK:=kb.drew.grown hm.gr;obtain⟨z0,z1,z2,z3,z4,z5,z6,z7⟩:=sx (o:=4) zK rfl rfl rfl rfl))
      have gx:=(gb.out.drew.step hm z D gd).put1 z ga D (hC.mono (Y:=fun b=>w.heap.size<=b) fun b hb _=>by have hb:w4.heap.size<=b:=hb;have:=gb.out.2.1.size;omega);all_goals(go_wp2_with fail);go_meet;exact⟨n,t,gx,g0.out⟩
   case rest=>
    rename World=>wc;obtain⟨b,s2,hS,hE⟩:=hcut;have rd:=hS.1;have HE:=hid hE;have HS:=hid hS;clear hS hE gb gh O;go_wp2_with fail;cases hN:aR E.c s2 ⟨#[59]⟩with
    |false=>refine(dN E s2 _ _ rd hN).mono ?_;rintro e w3⟨rfl,hb⟩;unfold ag;exact⟨rfl,lF (by rw[<-HE.out,pH,need];simp[hN]) (HS.out.2.1.below hb)⟩
    | true=>
     refine(cW E s2 _ _ rd hN).mono ?_;rintro e w3⟨rfl,hm⟩;have gl:=hid (HS.out.step hm z D gd);have gj:=hm.rd;have O:=hid (show(if aR E.c (am s2) ⟨#[123]⟩then .ok cj (am s2)else cV (mz F) E.c (am s2)).bind (fun d s4=>.ok (x,b,d) s4)=res by rw[<-HE.out,pH,need];simp only[hN,kS,d5.bind_ok]);clear HE hN hm HS rd;go_wp2_with fail;refine(bL E (am s2) ⟨#[123]⟩ _ gj).mono ?_;cases gg:aR E.c (am s2) ⟨#[123]⟩with
     |true=>rintro e w4⟨rfl,hb⟩;have I:=gl.out.step ((au.refl gj).step hb) z D gd;have M:=hid (show(.ok (x,b,cj) (am s2):d5 (Nd×Nd×Nd))=res by rw[<-O.out,gL gg];rfl);go_wp2_with fail;refine jD (qI rfl _ _ _) rfl ?_;exact I.fin M.out.symm
     | false=>
      rintro e w4⟨rfl,hb⟩;have I:=gl.out.step ((au.refl gj).step hb) z D gd;have M:=hid (show(cV (mz F) E.c (am s2)).bind (fun d s4=>.ok (x,b,d) s4)=res by rw[<-O.out,gE (by rw[gg];decide)]);clear O gg gl hb;have gi:=I.1;obtain⟨lc,A1,c1,A2,c2,A3,c3,kb,-⟩:=I.2.2;cases hQ:cV (mz F) E.c (am s2)with
      |out=>exact absurd M.out.symm (by rw[hQ];exact gz.out)
      |fail q=>have HF:Hid (res=.fail q):=hid (by rw[<-M.out,hQ];rfl);go_wp2_with fail;let SS:World->Prop:=fun w'=>w'.cell? ⟨L,2,none⟩=some (.slice (some ⟨K,0,none⟩) 4 4);have gy:SS w4.drew:=lc;(refine jS (S:=SS) (by kernel_rfl) gy ?_;intro J;refine dF 0 J ?_;refine dF 1 J ?_;refine dF 2 J ?_;refine dF 3 J ?_;refine dF 4 J ?_;refine dF 5 J ?_;refine dF 6 J ?_;refine yd 7 fun K hK=>?_;go_simp);refine(dH E _ _ _ (mz F) (am s2) _ gi.drew g7.out ((gs.out _).out) (by rw[hQ];exact nofun)).mono ?_;rw[hQ];rintro e w5⟨rfl,hg⟩;unfold ag;exact⟨rfl,lF HF.out (I.drew.2.1.step hg)⟩
      | ok n t=>
       have g0:=hid (show(.ok (x,b,n) t:d5 (Nd×Nd×Nd))=res by rw[<-M.out,hQ];rfl);have HC:=hid (fun W(hr:aH E W (am s2))=>dH E _ _ _ (mz F) (am s2) W hr g7.out ((gs.out _).out) (by rw[hQ];exact nofun));rw[hQ]at HC;have gb:=hid I;clear M I;go_wp2_with fail;go_region_held3 (fun w'=>w'.cell? ⟨L,2,none⟩=some (.slice (some ⟨K,0,none⟩) 4 4))
        (first|with_reducible exact zL|exact lc|(rw[gG _ _ _ _ (by exact ga.symm),gG _ _ _ _ (by exact ga.symm),gG _ _ _ _ (by exact ga.symm),gG _ _ _ _ (by exact ga.symm)];exact zL))
        ((go_at_call 296;refine(HC.out _ gi.drew).mono ?_;rintro e w5⟨⟨v,rfl,hv⟩,hm⟩;obtain⟨A,c,rfl,hC⟩:=hv.toC;have zL:=hm.gr.cell (show w4.drew.cell? ⟨L,2,none⟩=_ from lc) (fun e=>gd (by injection e));have zK:=kb.drew.grown hm.gr;obtain⟨z0,z1,z2,z3,z4,z5,z6,z7⟩:=sx (o:=8) zK rfl rfl rfl rfl))
       have gx:=(gb.out.drew.step hm z D gd).put2 z ga D (hC.mono (Y:=fun b=>w.heap.size<=b) fun b hb _=>by have hb:w4.heap.size<=b:=hb;have:=gb.out.2.1.size;omega);all_goals(go_wp2_with fail);refine jD (qI rfl _ _ _) rfl ?_;exact gx.fin g0.out.symm
def lU(F:eQ)(p:Int)(x:ByteArray)(ps:Nd):R Nd:=fun c s2=>
 if aR c s2 ⟨#[61]⟩then(F.typ c (am s2)).bind fun t s3=>.ok (.mk 4 x [ps,t] p) s3
 else if aR c s2 ⟨#[115,116,114,117,99,116]⟩then(fF F (ar c s2) c (am s2)).bind fun t s3=>.ok (.mk 3 x [ps,t] p) s3
 else if aR c s2 ⟨#[105,110,116,101,114,102,97,99,101]⟩then(fl F (ar c s2) c (am s2)).bind fun t s3=>.ok (.mk 3 x [ps,t] p) s3
 else(F.typ c s2).bind fun t s3=>.ok (.mk 3 x [ps,t] p) s3
theorem Bd(E:bC)(F:eQ)(hF:mC E F)(p:Int)(w:World)(s:St)(h:aH E w s)(hk:ig F p E.c s≠.out):
  Calls prog 144 #[E.R,p] w (ic E w (ig F p E.c s)):=by
 generalize hres:ig F p E.c s=res at *;have gz:=hid (show(bV E.c s).bind (fun x s1=>(d6 F E.c s1).bind fun ps s2=>lU F p x ps E.c s2)=res from hres);have h5:=hid hk;have hl:=h.lt;have gx:=(au.refl h).alloc (.cells bg 41);have h0:=aa.new w 41 bg;clear hres hk;(go_enter func144,ntmps144);go_wp2_with fail;by_cases hN:(aj E.c s.at_).kind=1
 case neg=>refine(lj E s _ gx.rd hN).mono ?_;rintro e w6⟨rfl,jc⟩;unfold ag;exact⟨rfl,af (by rw[<-gz.out,bV,gE hN];rfl) gx.gr (ac _ jc)⟩
 have HE:=hid (show(d6 F E.c (am s)).bind (fun ps s2=>lU F p (aj E.c s.at_).text ps E.c s2)=res by rw[<-gz.out,bV,gL hN];rfl);refine(fK E s _ gx.rd hN).mono ?_;rintro e w1⟨rfl,ha⟩;have hh:=h0.grown ha.gr;have gw:=gx.trans ha;have h9:=hh.lt;generalize(aj E.c s.at_).text=tx at *;clear gz hN h0 gx ha;go_wp2_with fail;cases hP:d6 F E.c (am s)with
 |out=>exact absurd HE.out.symm (by rw[hP];exact h5.out)
 |fail q=>refine(lZ E F hF _ (am s) gw.rd (by rw[hP];exact nofun)).mono ?_;rw[hP];rintro e w2⟨rfl,jb⟩;unfold ag;exact⟨rfl,af (by rw[<-HE.out,hP];rfl) gw.gr jb⟩
 | ok ps s2=>
  have HT:Hid (lU F p tx ps E.c s2=res):=hid (by rw[<-HE.out,hP];rfl);refine(lZ E F hF _ (am s) gw.rd (by rw[hP];exact nofun)).mono ?_;rw[hP];rintro e w2⟨⟨v,rfl,hv⟩,g2⟩;obtain⟨A,cp,rfl,hC⟩:=hv.toC;have hz:=hh.grown g2.gr;have ho:=gw.trans g2;have jj:w1.heap.size<=w2.heap.size:=g2.gr.size;clear hP HE g2 gw hh;go_wp2_with fail;refine(aI _ _ _ _ _ ⟨_,_,_,rfl⟩).mono ?_;rintro e w3⟨rfl,gq⟩;have hu:=(aa.new w2 41 (nv ps A cp)).below gq (by simp);have hy:=(hz.alloc _).below gq (by simp;omega);have hn:=(ho.alloc _).step gq;(have ji:w2.heap.size+1<=w3.heap.size:=by have:=gq.size;simp at this;omega);have h3:eS (w.heap.size+1) (fun b=>b=w3.heap.size) w3 (.slice (some ⟨w2,0,none⟩) 1 1) [ps]:=
   eS.one (S:=w.heap.size+1) hu (by omega) rfl (hC.mono fun b hb _=>by omega) (gA _)
    (fun b _ hlt=>(gq.block b (by simp;omega)).trans (gS w2 _ b hlt)) (fun b _ hb=>by omega) (by omega)
  clear gq hu hz ho hC hv;go_wp2_with fail;have hs:=aa.new w3 41 #[.int .i64 3,.string tx,.slice (some ⟨w2,0,none⟩) 1 1,p];have hw:=hy.alloc (.cells #[.int .i64 3,.string tx,.slice (some ⟨w2,0,none⟩) 1 1,p] 41);have hf:=hn.alloc (.cells #[.int .i64 3,.string tx,.slice (some ⟨w2,0,none⟩) 1 1,p] 41);have h2:=h3.kept (((ak.refl _ w3).alloc (.cells #[.int .i64 3,.string tx,.slice (some ⟨w2,0,none⟩) 1 1,p] 41)));(have jh:w3.heap.size+1<=(w3.alloc (.cells #[.int .i64 3,.string tx,.slice (some ⟨w2,0,none⟩) 1 1,p] 41)).heap.size:=by simp);refine(bh E s2 _ hf.rd).mono ?_;unfold eR;rintro e w5⟨rfl,gp⟩;have g4:=hs.below gp (by simp);have g6:=hw.below gp (by simp;omega);have g8:=h2.kept (ak.of_below gp (fun b _ hlt=>hlt));have gs:=hf.step gp;have jg:=gp.size;generalize(w3.alloc (.cells #[.int .i64 3,.string tx,.slice (some ⟨w2,0,none⟩) 1 1,p] 41))=w4 at *;generalize hL:w3.heap.size=L at *;generalize hK:w2.heap.size=K at *;(have jf:w.heap.size+1<L:=by omega);clear h3 hy hn hs hw h2 hf gp;go_wp2_with fail;cases J:aR E.c s2 ⟨#[61]⟩
  case' true=>have HA:=hid (show(F.typ E.c (am s2)).bind (fun t s3=>.ok (.mk 4 tx [ps,t] p) s3)=res by rw[<-HT.out,lU,gL J]);refine(aS E s2 _ _ gs.rd J).mono ?_;rintro e w6⟨rfl,gn⟩;have ge:=g4.grown gn.gr;have gg:=g6.grown gn.gr;have gh:=g8.grown gn.gr (by omega);have z:=gs.trans gn;have h8:=gn.gr.size;clear g4 g6 g8 gs gn;clear HT J;obtain⟨x0,x1,x2,x3,y0,y1,y2,y3⟩:=ah ge;go_wp2_with fail;(have gt:aa (w6.setCell ⟨L,0,none⟩ (.int .i64 4)) L 41 #[.int .i64 4,.string tx,.slice (some ⟨K,0,none⟩) 1 1,p]:=by simpa using ge.set_ 0 (.int .i64 4));have gy:=gg.far (p:=⟨L,0,none⟩) (by show w.heap.size≠L;omega) (.int .i64 4);have g7:=gh.kept ((ak.refl _ _).setCell (p:=⟨L,0,none⟩) (fun hX=>hX.2 rfl) (.int .i64 4));have g3:=z.own (p:=⟨L,0,none⟩) (by show w.heap.size<=L;omega) (by show E.R<L;omega) (.int .i64 4);(have hj:w6.heap.size<=(w6.setCell ⟨L,0,none⟩ (.int .i64 4)).heap.size:=by simp);clear x0 x1 x2 x3 y0 y1 y2 y3 ge gg gh z;generalize w6.setCell ⟨L,0,none⟩ (.int .i64 4)=w8 at *;have I:=gt;have g5:=gy;have g0:=g7;have gd:=g3;clear gt gy g7 g3;have M:=hid fun W hr=>hF.typ W (am s2) hr;generalize F.typ E.c (am s2)=r0 at HA M;generalize(4:Int)=kd at I HA
  case' false=>
   refine(aW E s2 _ _ gs.rd J).mono ?_;rintro e w6⟨rfl,gm⟩;have ge:=g4.bl gm.bel;have gg:=g6.bl gm.bel;have gh:=g8.kept (ak.of_below gm.bel (fun b _ hlt=>hlt));have z:=gs.trans gm.moved;have h8:=gm.bel.size;clear g4 g6 g8 gs gm;go_wp2_with fail;cases ga:aR E.c s2 ⟨#[115,116,114,117,99,116]⟩
   case' true=>have HA:=hid (show(fF F (ar E.c s2) E.c (am s2)).bind (fun t s3=>.ok (.mk 3 tx [ps,t] p) s3)=res by rw[<-HT.out,lU,gE (by rw[J];decide),gL ga]);refine(aS E s2 _ _ z.rd ga).mono ?_;rintro e w8⟨rfl,D⟩;have I:=ge.grown D.gr;have g5:=gg.grown D.gr;have g0:=gh.grown D.gr (by omega);have gd:=z.trans D;have hi:=D.gr.size;clear ge gg gh z D;clear HT J ga;go_wp2_with fail;have M:=hid fun W hr=>Dy E F hF (ar E.c s2) W (am s2) hr;generalize fF F (ar E.c s2) E.c (am s2)=r0 at HA M;generalize(3:Int)=kd at I HA
   case' false=>
    refine(aW E s2 _ _ z.rd ga).mono ?_;rintro e w17⟨rfl,O⟩;have gi:=ge.bl O.bel;have gj:=gg.bl O.bel;have gk:=gh.kept (ak.of_below O.bel (fun b _ hlt=>hlt));have y:=z.trans O.moved;have je:=O.bel.size;clear ge gg gh z O;go_wp2_with fail;cases gu:aR E.c s2 ⟨#[105,110,116,101,114,102,97,99,101]⟩
    case' true=>have HA:=hid (show(fl F (ar E.c s2) E.c (am s2)).bind (fun t s3=>.ok (.mk 3 tx [ps,t] p) s3)=res by rw[<-HT.out,lU,gE (by rw[J];decide),gE (by rw[ga];decide),gL gu]);refine(aS E s2 _ _ y.rd gu).mono ?_;rintro e w8⟨rfl,D⟩;have I:=gi.grown D.gr;have g5:=gj.grown D.gr;have g0:=gk.grown D.gr (by omega);have gd:=y.trans D;have hi:=D.gr.size;clear gi gj gk y D;clear HT J ga gu;go_wp2_with fail;have M:=hid fun W hr=>yH E F hF (ar E.c s2) W (am s2) hr;generalize fl F (ar E.c s2) E.c (am s2)=r0 at HA M;generalize(3:Int)=kd at I HA
    case' false=>have HA:=hid (show(F.typ E.c s2).bind (fun t s3=>.ok (.mk 3 tx [ps,t] p) s3)=res by rw[<-HT.out,lU,gE (by rw[J];decide),gE (by rw[ga];decide),gE (by rw[gu];decide)]);refine(aW E s2 _ _ y.rd gu).mono ?_;rintro e w8⟨rfl,gl⟩;have I:=gi.bl gl.bel;have g5:=gj.bl gl.bel;have g0:=gk.kept (ak.of_below gl.bel (fun b _ hlt=>hlt));have gd:=y.trans gl.moved;have hi:=gl.bel.size;clear gi gj gk y gl;go_wp2_with fail;clear HT J ga gu;have M:=hid fun W hr=>hF.typ W s2 hr;generalize F.typ E.c s2=r0 at HA M;generalize(3:Int)=kd at I HA
  all_goals
   have hc:=I.lt;(have hm:E.R<w.heap.size+1:=by omega);(have h7:w.heap.size+1<=w8.heap.size:=by omega);obtain⟨x0,x1,x2,x3,y0,y1,y2,y3⟩:=ah I;cases r0 with
   |out=>exact absurd HA.out.symm h5.out
   |fail q=>
    have HF:Hid (res=.fail q):=hid (by rw[<-HA.out];rfl);go_wp2_with fail;let SS:World->Prop:=fun w'=>w'.cell? ⟨L,2,none⟩=some (.slice (some ⟨K,0,none⟩) 1 1);have h1:SS w8.drew:=x2;first
    |((refine jS (S:=SS) (by kernel_rfl) h1 ?_;intro gb;refine dF 0 gb ?_;refine dF 1 gb ?_;refine dF 2 gb ?_;refine yd 3 fun K hK=>?_;go_simp);refine(M.out _ gd.drew.rd nofun).mono ?_)
    |((refine jS (S:=SS) (by kernel_rfl) h1 ?_;intro gb;refine dF 0 gb ?_;refine dF 1 gb ?_;refine dF 2 gb ?_;refine dF 3 gb ?_;refine yd 4 fun K hK=>?_;go_simp);refine(M.out _ gd.drew.rd nofun).mono ?_)
    rintro e w7⟨rfl,ja⟩;unfold ag;exact⟨rfl,af HF.out gd.drew.gr ja⟩
   | ok n2 s4=>
    have HF:Hid (res=.ok (.mk kd tx [ps,n2] p) s4):=hid (by rw[<-HA.out];rfl);clear HA;go_wp2_with fail;go_region_law (first
     |(refine lJ (by rfl) _ _ (by rfl) E s4 (w.heap.size+1) w8.heap.size (fun b=>b=L) w w7 (.slice (some ⟨K,0,none⟩) 1 1) [ps] n2 A7 c7 (by rfl) (by rfl) g7 g3 (jC _) hm h7 hj (fun b hb=>by rw[hb];exact hc) (fun g hg=>(g0.lt g hg).2) (by simp) jd ?_;intro g c w9 g1;have hq:aa w9 L 41 #[.int .i64 kd,.string tx,.slice (some ⟨K,0,none⟩) 1 1,p]:=(g1.old L he (.inl rfl)).trans gt;obtain⟨v0,v1,v2,v3,f0,f1,f2,f3⟩:=ah hq)
     |(go_simp;(first|go_at_call 200|go_at_call 205|go_at_call 206);refine(M.out _ gd.drew.rd nofun).mono ?_;rintro e w7⟨⟨v,rfl,h6⟩,gv⟩;obtain⟨A7,c7,rfl,jd⟩:=h6.toC;have gt:=I.drew.grown gv.gr;have gy:=g5.drew.grown gv.gr;have g7:=(g0.kept ((ak.refl _ _).drew)).grown gv.gr hm;have g3:=gd.drew.trans gv;have hj:w8.heap.size<=w7.heap.size:=gv.gr.size;have he:=gt.lt;obtain⟨z0,z1,z2,z3,_,_,_,_⟩:=ah gt))
    all_goals have hp:=g1.mov.own (p:=⟨L,2,none⟩) (by show w.heap.size<=L;omega) (by show E.R<L;omega) (.slice (some ⟨g,0,none⟩) 2 c);(have ht:aa (w9.setCell ⟨L,2,none⟩ (.slice (some ⟨g,0,none⟩) 2 c)) L 41 #[.int .i64 kd,.string tx,.slice (some ⟨g,0,none⟩) 2 c,p]:=by simpa using hq.set_ 2 (.slice (some ⟨g,0,none⟩) 2 c));have g9:=aa.far (show aa w9 w.heap.size 41 bg from(g1.old w.heap.size (by have:=gy.lt;omega) (.inr (by omega))).trans gy) (p:=⟨L,2,none⟩) (by show w.heap.size≠L;omega) (.slice (some ⟨g,0,none⟩) 2 c);have h4:=g1.own.kept ((ak.refl _ _).setCell (p:=⟨L,2,none⟩) (fun hX=>hX.2 rfl) (.slice (some ⟨g,0,none⟩) 2 c));clear v0 v1 v2 v3 f0 f1 f2 f3 z0 z1 z2 z3 x0 x1 x2 x3 y0 y1 y2 y3;obtain⟨x0,x1,x2,x3,_,_,_,_⟩:=ah ht;obtain⟨d0,d1,d2,d3,e0,e1,e2,e3⟩:=ah g9;generalize w9.setCell ⟨L,2,none⟩ (.slice (some ⟨g,0,none⟩) 2 c)=w10 at *;go_wp2_with fail;refine av HF.out (aq.of_slice h4.values kd tx p) hp g9 (gA _) hl ?_ rfl (by rfl) rfl;rintro b⟨hb,_⟩;constructor<;>omega
end
section
open Go.RowKit Go.Lib Go.Proofs
abbrev dy(w:World)(v:Value)(n:Nd):Prop:=aq (fun _=>True) w v n
theorem aq.wide{X:Nat->Prop}{w:World}{v:Value}{n:Nd}(h:aq X w v n):dy w v n:=h.mono fun _ _ _=>trivial
theorem aq.below{X:Nat->Prop}{w w':World}{v:Value}{n:Nd}(h:aq X w v n)(hb:Below w w w'):aq X w' v n:=h.keep fun b _ hlt=>hb.block b hlt
theorem cS.below{X:Nat->Prop}{w w':World}{v:Value}{l:List Nd}(h:cS X w v l)(hb:Below w w w'):cS X w' v l:=by obtain⟨A,cap,xs,e,J,I,D⟩:=h;exact⟨A,cap,xs,e,J,I.keep fun b _ hlt=>hb.block b hlt,D.keep fun b _ hlt=>hb.block b hlt⟩
abbrev lL(w:World)(v:Value)(l:List Nd):Prop:=cS (fun _=>True) w v l
theorem fN(a b:Int):(a==b)=decide (a=b):=by rw[jW];simp
def bQ(w:World):Prop:=∃m:Int,w.cell? ⟨0,0,none⟩=some (.int .i64 m)
theorem bQ.below{w w':World}(h:bQ w)(hb:Below w w w'):bQ w':=by obtain⟨m,h⟩:=h;exact⟨m,(hb.cell (gU w _ h)).trans h⟩
structure Fv where
 k:FuncId
 cap:Array Value
def Fv.val(f:Fv):Value:=.func (.func f.k) #[] f.cap
structure m9(d:Nat)(P:Nd->Bool)(f:Fv)(w0:World):Prop where
 enter:∀a w,(callFunc f.k a).run prog w=.ok (.enter f.k a) w
 out:∀(w:World)(v:Value)(n:Nd),Below w0 w0 w->dy w v n->ie d n->Calls prog f.k (#[v]++f.cap) w fun e w'=>e=.returned (.bool (P n))/\Below w w w'
theorem m9.below{d:Nat}{P:Nd->Bool}{f:Fv}{w0 w1:World}(h:m9 d P f w0)(hb:Below w0 w0 w1):m9 d P f w1:=
 ⟨h.enter,fun w v n hw=>h.out w v n (aE hb hw)⟩
structure BH(P:ByteArray->Bool)(f:Fv)(w0:World):Prop where
 enter:∀a w,(callFunc f.k a).run prog w=.ok (.enter f.k a) w
 out:∀(w:World)(s:ByteArray),Below w0 w0 w->s.size<=1000000000->Calls prog f.k (#[.string s]++f.cap) w fun e w'=>e=.returned (.bool (P s))/\Below w w w'
theorem BH.below{P:ByteArray->Bool}{f:Fv}{w0 w1:World}(h:BH P f w0)(hb:Below w0 w0 w1):BH P f w1:=
 ⟨h.enter,fun w s hw=>h.out w s (aE hb hw)⟩
def eT(d:Nat)(P:Nd->Bool)(f:FuncId):Prop:=
 ∀(w:World)(v:Value)(n:Nd),bQ w->dy w v n->ie d n->Calls prog f #[v] w fun e w'=>e=.returned (.bool (P n))/\Below w w w'
theorem eT.so{d:Nat}{P:Nd->Bool}{f:FuncId}(h:eT d P f)(D:∀a w,(callFunc f a).run prog w=.ok (.enter f a) w)(w0:World)(hT:bQ w0):m9 d P ⟨f,#[]⟩ w0:=
 ⟨D,fun w v n hb hv hd=>h w v n (hT.below hb) hv hd⟩
theorem eT.le{d d':Nat}{P:Nd->Bool}{f:FuncId}(h:eT d P f)(hd:∀n,ie d' n->ie d n):eT d' P f:=fun w v n hT hv hn=>h w v n hT hv (hd n hn)
def yJ(g:Nat)(w:World):Prop:=∃ev,w.cell? ⟨g,0,none⟩=some ev/\(ev=.nilIface\/∃te pe,ev=.iface te pe)
theorem yJ.below{g:Nat}{w w':World}(h:yJ g w)(hb:Below w w w'):yJ g w':=by obtain⟨ev,h,D⟩:=h;exact⟨ev,(hb.cell (gU w _ h)).trans h,D⟩
def mG(w:World):Prop:=yJ 1 w/\yJ 2 w/\Lib.TabIs prog w "internal/strconv.uint64pow10" .u64 Lib.pow10Tab
theorem O8:prog.globalNamed "internal/strconv.uint64pow10" = some 5:=by kernel_rfl
theorem mG.below{w w':World}(h:mG w)(hb:Below w w w'):mG w':=by
 obtain⟨J,I,h⟩:=h;refine⟨J.below hb,I.below hb,?_⟩;unfold Lib.TabIs World.var? at h |-;rw[O8]at h |-;simp only[qB]at h |-;have D:5<w.heap.size:=by
  rcases kN 5 w.heap.size with h'|h'
  ·exact h'
  ·rw[kH h']at h;cases h
 rw[hb.block 5 D];exact h
theorem yK(n:Int)(O :-9223372036854775808<=n)(M:n<=9223372036854775807)(w:World)(J:mG w):
  Calls prog 37 #[n] w fun e w'=>e=.returned (.string ⟨(Lib.itoa n).toArray⟩)/\Below w w w':=by have h:=Any.strconv_Itoa Tryz.laysItoaM n O M w J.2.2;exact h.mono fun e w'⟨I,k,os,D⟩=>⟨I,by rw[D];exact⟨rfl,rfl,rfl,by rw[Go.Sort.size_grow];exact Nat.le_add_right _ _,fun j hj=>Go.Sort.heap_grow_old _ _ hj⟩⟩
def tR(s:ByteArray)(e:Ending):Prop:=match Lib.atoiAll s.data.toList with
 | .ok v=>e=.returned (.tuple #[.int .i64 v,.nilIface])
 |_=>∃n t p,e=.returned (.tuple #[.int .i64 n,.iface t p])
theorem yL(s:ByteArray)(y:s.size<=65536)(w:World)(J:mG w):Calls prog 36 #[s] w fun e w'=>tR s e/\Below w w w':=by
 obtain⟨⟨ev,x,q⟩,⟨er,O,M⟩,-⟩:=J;unfold tR;cases h:Lib.atoiAll s.data.toList
 case ok v=>
  exact(Any.strconv_Atoi_ok Tryz.laysAtoiC s (by omega) v h w).mono fun e w'⟨D,I⟩=>⟨D,by
   rcases I with rfl|⟨t,rfl⟩
   ·exact gC _ _
   ·exact Lib.bytesWorld_below _ _ _⟩
 case range=>exact(Any.strconv_Atoi_range Tryz.laysAtoiC s (by omega) h er w O M).mono fun e w'⟨N,D,_,_,hb⟩=>⟨⟨_,_,_,D⟩,hb⟩
 ·exact(Any.strconv_Atoi_syntax Tryz.laysAtoiC s (by omega) h ev w x q).mono fun e w'⟨N,D,_,_,hb⟩=>⟨⟨_,_,_,D⟩,hb⟩
theorem rq(s p:ByteArray)(w:World):Calls prog 34 #[s,p] w fun e w'=>e=.returned (.tuple #[.string ⟨(Lib.trimPrefix s.data.toList p.data.toList).toArray⟩,.bool (Lib.hasPrefix s.data.toList p.data.toList)])/\w'=w:=
 Any.strings_CutPrefix Tryz.laysCutP s p w
theorem Iw(s p:ByteArray)(w:World)(D:s.size<=9223372036854775807):Calls prog 20 #[s,p] w fun e w'=>e=.returned (.tuple #[.string ⟨(Lib.trimSuffix s.data.toList p.data.toList).toArray⟩,.bool (Lib.hasSuffix s.data.toList p.data.toList)])/\w'=w:=
 Any.strings_CutSuffix Tryz.laysCutS s p w D
theorem FG(s:ByteArray)(c:Int)(D:s.size<4611686018427387904)(w:World):Calls prog 67 #[s,.int .u8 c] w fun e w'=>e=.returned (.int .i64 (Lib.lastIndexByte s c))/\w'=w:=
 Any.strings_LastIndexByte Tryz.laysLastB s c D w
theorem FH(s cs:ByteArray)(w:World)(D:cs.size<4294967281)(I:∀(j:Nat)b,cs.data.toList[j]? = some b->b.toNat<128):Calls prog 68 #[s,cs] w fun e w'=>e=.returned (.string ⟨(Lib.trimLeftS s.data.toList cs.data.toList).toArray⟩)/\Below w w w':=
 Any.strings_TrimLeft_laid Tryz.laysTrimL (by kernel_rfl) s cs w D I
theorem FI(s cs:ByteArray)(w:World)(I:s.size<=9223372036854775807)(D:cs.size<4294967281)(J:∀(j:Nat)b,cs.data.toList[j]? = some b->b.toNat<128):Calls prog 45 #[s,cs] w fun e w'=>e=.returned (.string ⟨(Lib.trimRightS s.data.toList cs.data.toList).toArray⟩)/\Below w w w':=
 Any.strings_TrimRight_laid Tryz.laysTrimR (by kernel_rfl) s cs w I D J
theorem B6(g:Nat)(lb:Array Value)(eg:∀args w,(callFunc g args).run prog w=.ok (.enter g args) w)(p:Nat->Bool)(s:ByteArray)(w:World)(D:s.size<=4294967296)(I:Go.Proofs.PredGrows prog g lb p w):
  Calls prog 56 #[.string s,.func (.func g) #[] lb] w fun e w'=>∃A,e=.returned (.slice (some ⟨A,0,none⟩) (Lib.goFieldsP p s).length (Lib.goFieldsP p s).length)/\w.heap.size<=A /\
   w'.ownsRow w.heap.size 9 1 (.slice (some ⟨A,0,none⟩) (Lib.goFieldsP p s).length (Lib.goFieldsP p s).length) (Lib.goFieldsP p s).length ((Lib.goFieldsP p s).map Value.string)/\Below w w w':=
 Any.strings_FieldsFunc_grows Tryz.laysFields g lb eg p s w D I (by kernel_rfl) (by kernel_rfl)
theorem B7(s sep:ByteArray)(w:World)(D:s.size<4294967281)(hT:bQ w):Calls prog 35 #[s,sep] w fun e w'=>e=.returned (.tuple #[.string ⟨(Lib.cut s.data.toList sep.data.toList).1.toArray⟩,.string ⟨(Lib.cut s.data.toList sep.data.toList).2.1.toArray⟩,.bool (Lib.cut s.data.toList sep.data.toList).2.2])/\Below w w w':=by obtain⟨m,I⟩:=hT;exact(Any.strings_Cut Tryz.laysCut s sep m w D I).mono fun _ _ h=>⟨h.1,by obtain⟨n,rfl⟩:=h.2;exact az (gC _ _) n⟩
theorem LO:(prog.info? 82).map (fun i=>(i.zero,i.size,i.bytes))=some (some (.agg #[.int .i64 0,.int .i64 0]),2,16):=by kernel_rfl
def dM(B:Nat)(w:World)(v:Value)(l:Us):Prop:=w.ownsRow B 82 2 v l.length (rS l)
section
variable {B:Nat} {w w':World} {v:Value} {l:Us}
theorem dM.nil(B:Nat)(w:World):dM B w (.slice none 0 0) []:=kP _ _ _ _
theorem dM.keep(h:dM B w v l)(M:∀b,B<=b->b<w.heap.size->w'.heap[b]? = w.heap[b]?):dM B w' v l:=by
 refine⟨h.1,?_⟩;rcases h.2 with O|⟨g,cap,cur,e,J,I,r⟩
 ·exact .inl O
 ·refine .inr ⟨g,cap,cur,e,J,?_,r⟩;have D:g<w.heap.size:=by
   rcases kN g w.heap.size with D|hge
   ·exact D
   ·rw[kH hge]at I;cases I
  exact(M g J D).trans I
theorem dM.below(h:dM B w v l)(hb:Below w w w'):dM B w' v l:=h.keep fun b _ hlt=>hb.block b hlt
theorem dM.less{B':Nat}(h:dM B w v l)(I:B'<=B):dM B' w v l:=by
 refine⟨h.1,?_⟩;rcases h.2 with J|⟨g,cap,cur,e,D,r⟩
 ·exact .inl J
 ·exact .inr ⟨g,cap,cur,e,gM I D,r⟩
theorem dM.lt(h:dM B w v l):∀g,v.ownBlock=some g->B<=g/\g<w.heap.size:=fun g hg=>qA h g hg
theorem dM.form(h:dM B w v l):∃A c,v=.slice A l.length c/\l.length<=c:=by
 rcases h.2 with⟨rfl,I⟩|⟨g,cap,cur,rfl,_,_,D,_⟩
 ·exact⟨none,0,by rw[I],by omega⟩
 ·exact⟨_,cap,rfl,D⟩
end
theorem Fd(l:Us):∀u∈rS l,u.oneCell'=true:=by intro u hu;obtain⟨x,_,D⟩:=List.mem_flatMap.1 hu;unfold o8 at D;simp only[vb,qN,xj]at D;rcases D with rfl|rfl<;>rfl
theorem oB{w w':World}{r:Option Nat}{B:Nat}(h:w.grownBy w' r)(D:∀g,r=some g->B<=g)(I:B<=w.heap.size):Below B w w':=
 ⟨h.os,h.tape,h.output,h.size,fun k hk=>h.block k (by omega) (fun e=>by have:=D k e.symm;omega)⟩
theorem LP{o:Oper}{a:Act}{K:Act->World->Prop}{Q:Exit->Act->World->Prop}(s x:Operand)
  (y:o.op=.call { callee:=.builtin .append,args:=#[s,x],argTypes:=#[117,117] })
  (B:Nat)(w1:World)(u:Value)(l:Us)(m p:Int)(q:a.eval s=u)(S:Nat)(O:a.eval x=.slice (some ⟨S,0,none⟩) 1 1)(hS:w1.heap.size=S)
  (M:dM B w1 u l)(hB:B<=w1.heap.size)(hl:l.length<=1000000)
  (h:∀g c w2,dM B w2 (.slice (some ⟨g,0,none⟩) (l.length+1) c) (l++[(m,p)])->Below B w1 w2->K (a.put o.dst (.slice (some ⟨g,0,none⟩) (l.length+1) c)) w2):
  o.wp prog a (w1.alloc (.cells #[m,p] 82)) K Q:=by
 subst hS;obtain⟨i0,z,J,I,D⟩:=qr LO;refine vE _ s x 117 y B 82 i0 _ 2 16 underlying117 z J I D rfl (by omega) u l.length _ q (kQ M _) ⟨w1,0,none⟩ 1 1 [.int .i64 m,.int .i64 p] O rfl
  (qQ (cs:=#[m,p]) (kJ _ _)) (Fd [(m,p)]) (by omega) (by unfold maxLen;omega) (by omega) (by rw[gP];omega) _ rfl ?_
 intro g c w2 hown1 hg hat _;(have e:rS (l++[(m,p)])=rS l++[.int .i64 m,.int .i64 p]:=by unfold rS;rw[kO];rfl);refine h g c w2 ?_ (((gC B w1).alloc hB _).trans (oB hg (fun g hg=>(M.lt g hg).1) (by rw[gP];omega)));unfold dM;rw[e,gJ];exact hown1
theorem ci{ops:Array Oper}{rest:List Oper}{o:Oper}{a:Act}{Q:Exit->Act->World->Prop}(D:o.guard=none)(s x:Operand)
  (M:o.op=.call { callee:=.builtin .append,args:=#[s,x],argTypes:=#[117,117] })
  (B:Nat)(w1:World)(u:Value)(l:Us)(m p:Int)(J:a.eval s=u)(S:Nat)(I:a.eval x=.slice (some ⟨S,0,none⟩) 1 1)(q:w1.heap.size=S)
  (y:dM B w1 u l)(z:B<=w1.heap.size)(O:l.length<=1000000)
  (h:∀g c w2,dM B w2 (.slice (some ⟨g,0,none⟩) (l.length+1) c) (l++[(m,p)])->Below B w1 w2->wpList prog ops Q rest (a.put o.dst (.slice (some ⟨g,0,none⟩) (l.length+1) c)) w2):
  wpList prog ops Q (o::rest) a (w1.alloc (.cells #[m,p] 82)):=
 vJ D fun _ hK=>LP s x M B w1 u l m p J S I q y z O fun g c w2 h1 h2=>hK _ _ (h g c w2 h1 h2)
theorem Da{ops:Array Oper}{rest:List Oper}{o:Oper}{a:Act}{Q:Exit->Act->World->Prop}(M:o.guard=none)(s x:Operand)
  (ho:o.op=.call { callee:=.builtin .append,args:=#[s,x],argTypes:=#[117,117] })
  (B B1:Nat)(w1:World)(u v:Value)(l m:Us)(hs:a.eval s=u)(z:a.eval x=v)
  (q:dM B w1 u l)(O:dM B1 w1 v m)(y:B<=w1.heap.size)(hl:l.length+m.length<=1000000)
  (h:∀v' w2,dM B w2 v' (l++m)->Below B w1 w2->wpList prog ops Q rest (a.put o.dst v') w2):
  wpList prog ops Q (o::rest) a w1:=by obtain⟨i0,hi,J,I,D⟩:=qr LO;obtain⟨A,c,rfl,_⟩:=O.form;refine du w1 M s x 117 ho B 82 i0 _ 2 16 underlying117 hi J I D rfl (by omega) u l.length _ hs q w1.heap.size A m.length c (rS m) z (aA.of_own O) (Fd m) (by unfold maxLen;omega) (by omega) y ?_;intro v' w2 hown1 hg _;refine h v' w2 ?_ (oB hg (fun g hg=>(q.lt g hg).1) y);unfold dM rS;rw[kO,gJ];exact hown1
end
end Go.Proofs.YtcoiialmdncpfaaGreatDoor
