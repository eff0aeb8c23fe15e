/-
  Parts of the proof: Expr Rlitk Rlit Rslices Rnamed. By an AI agent.
-/
import Derived.Test.YteialcjaiocjdaaGreatDoorJ27
import Derived.Test.YteialcjaiocjdaaGreatDoorJ25
import Derived.BigQuiet
import Derived.Defers
import Derived.Recover
import Derived.IntWalk
open Go.Proofs.Tryz
set_option maxRecDepth 100000
set_option maxHeartbeats 8000000
namespace Go.Proofs.YteialcjaiocjdaaGreatDoor
section
open Go.RowKit Go.Lib Go.Proofs
attribute [local go_sem ↓] Go.wp_at_zero Go.wp_at_succ
attribute [local go_sem] bu bv bw bz
def uh(c:Cx):bQ Nd->uT
 | .out=>.out
 | .ok n s1=>if s1.at_<c.toks.length then .bad (aD c s1) 5 else if bA n=true then .tree n else .bad 0 11
def pc(F:fK)(s:ByteArray):uT:=match bZ s with
 | .err p n=>.bad p n
 | .out=>.out
 | .toks L=>uh ⟨L,(s.size:Int)⟩ (fp F.expr ⟨L,(s.size:Int)⟩ ⟨0,false,-1⟩)
theorem Eh(a:Array Value)(w:World):(callFunc 31 a).run prog w=.ok (.enter 31 a) w:=by kernel_rfl
theorem Bd(s:ByteArray)(w:World)(hT:iY w)(gq:s.size<=10000000000000000)(F:fK)(gg:bZ s≠.out)
  (hF:∀L E w',bZ s=.toks L->yV E w' s L->nE E F)
  (gj:∀L,bZ s=.toks L->∃n s1,fp F.expr ⟨L,(s.size:Int)⟩ ⟨0,false,-1⟩=.ok n s1/\s1.at_=L.length/\bA n=true/\rn 101 n/\(aO 100 n).length<=1000000000):
  Calls prog 10 #[s] w (fb w (pc F s)):=by
 have g4:∀(fn:Fn)(first cap:Array Value)(w:World),(Instr.makeFunc fn first cap).run prog w=.ok (.func fn first cap) w:=fun _ _ _ _=>rfl;obtain⟨W0,A0,cp,gk,gm,ge,gh,J⟩:∃(W0:World)(A0:Option Addr)(cp:Nat),(Go.convert 9 27 (.string s)).run prog (w.alloc (.cells bJ 24))=.ok (.slice A0 s.size cp) W0/\eK W0 A0 cp s/\Below w w W0/\aq W0 w.heap.size 24 bJ/\W0.heap.size=w.heap.size+2:=
  ⟨_,_,_,run_bytes_of_string (P:=prog) (w.alloc (.cells bJ 24)) 9 27 5 s underlying9 underlying27 underlying5,rv s _,((gH _ _).alloc (gC _) _).drew.alloc (by show w.heap.size<=(w.heap.push _).size;simp) _,(aq.new w _ _).drew.alloc _,by show((w.heap.push _).push _).size=_;simp⟩
 unfold bJ at gk;have M:=hid (yW _ _ s W0 gm (hT.below ge) gq gg);(have g3:0<w.heap.size:=by obtain⟨m,h⟩:=hT.tab;exact jD w _ h);have HT:=hid hT;obtain⟨O,hO⟩:∃O,pc F s=O:=⟨_,rfl⟩;rw[hO];clear gm hT;cases ht:bZ s with
 |out=>exact absurd ht gg
 |err p n=>have HX:Hid (O=.bad p n):=hid (by rw[<-hO,pc,ht]);obtain⟨-,rfl⟩:=pa ht;rw[ht]at M;clear hO gj hF ht gg;(go_enter func10,ntmps10);go_wp2_with fail;refine M.out.mono ?_;rintro e w1⟨rfl,D⟩;have gd:=(au ge D).alloc (by have:=D.size;omega) (.cells #[.pointer none] 41);have ga:=(gh.bl D).alloc (.cells #[.pointer none] 41);clear M gh ge D gk J;obtain⟨d0,d1,d2,d3,e0,e1,e2,e3⟩:=ab ga;go_wp2_with fail;have U:=dy ga (.int .i64 0) (.string ⟨#[]⟩) (.slice none 0 0) (.int .i64 0);(have gb:Below w w (dT (w1.alloc (.cells #[.pointer none] 41)) w.heap.size (.int .i64 0) (.string ⟨#[]⟩) (.slice none 0 0) (.int .i64 0)):=by unfold dT;exact(((gd.setCell (gC _) _).setCell (gC _) _).setCell (gC _) _).setCell (gC _) _);unfold dT at U gb;refine jY (lL rfl _ (by rfl) (by rfl) (by rfl) U) rfl ?_;rw[HX.out];exact⟨rfl,gb⟩
 |toks L=>(have gu:uh ⟨L,(s.size:Int)⟩ (fp F.expr ⟨L,(s.size:Int)⟩ ⟨0,false,-1⟩)=O:=by rw[<-hO,pc,ht]);have HF:=hid (fun E w'(h:yV E w' s L)=>hF L E w' ht h);obtain⟨n,s1,hP,gr,hr,gi,I⟩:=gj L ht;rw[ht]at M;clear gj hF ht gg;have HX:Hid (O=.tree n):=hid (by rw[<-gu,hP,uh,gB (by show ¬ s1.at_<L.length;omega),gG hr]);clear hO gu;(go_enter func10,ntmps10);go_wp2_with fail;refine M.out.mono ?_;rintro e w1⟨E,rfl,N,gz,D⟩;rw[J]at gz;have gd:=au ge D;have gv:=gh.bl D;have gy:=D.size;rw[J]at gy;have g1:=N.at_.lt;have gt:=Bc E F.expr (HF.out E w1 N).expr w1.heap.size (w1.alloc (.cells #[E.R] 41)) (aq.new w1 _ _) (by omega);have gw:=N.c;have gn:=N.at_.below ((gH _ w1).alloc (gC _) (.cells #[E.R] 41));have gs:=(HT.out.below (gd.alloc (by omega) (.cells #[E.R] 41))).tab;clear M gh ge D N gk J;have gx:=hid (FF E 31 #[] #[w1] (fp F.expr) ⟨0,false,-1⟩ s1 n (w1.alloc (.cells #[E.R] 41)) gn Eh (by simpa using gt) (by rw[gw];exact hP) (by rw[gw];exact gr) gs (by omega) ⟨#[101,120,112,114,101,115,115,105,111,110]⟩ true fun w v hT hv=>by rw[<-hr];exact Eg v n w hT hv gi I);clear gn gt hP gs gi I;go_wp2_with fail;refine gx.out.mono ?_;rintro e w2⟨⟨v,rfl,hv⟩,gp⟩;(have g2:(w1.alloc (.cells #[E.R] 41)).heap.size=w1.heap.size+1:=by simp);have g0:=gd.trans ((gH _ w1).alloc (by omega) (.cells #[E.R] 41) |>.trans (p8 gp (B:=w.heap.size) (by omega) (by omega)));have ga:=(gv.alloc (.cells #[E.R] 41)).grown gp;obtain⟨A,cp,rfl,hC⟩:=hv.toC;obtain⟨d0,d1,d2,d3,e0,e1,e2,e3⟩:=ab ga;clear gv gd gx hC;go_wp2_with fail;have U:=dy ga (.int .i64 n.kind) (.string n.text) (.slice A n.kids.length cp) (.int .i64 n.pos);have gl:=hv.kept (dn (X:=fun b=>(w1.alloc (.cells #[E.R] 41)).heap.size<=b) (wk:=w2) (g:=w.heap.size) (fun b hb=>by have hb:(w1.alloc (.cells #[E.R] 41)).heap.size<=b:=hb;simp at hb;omega) (.int .i64 n.kind) (.string n.text) (.slice A n.kids.length cp) (.int .i64 n.pos));(have gb:Below w w (dT w2 w.heap.size (.int .i64 n.kind) (.string n.text) (.slice A n.kids.length cp) (.int .i64 n.pos)):=by unfold dT;exact(((g0.setCell (gC _) _).setCell (gC _) _).setCell (gC _) _).setCell (gC _) _);unfold dT at U gl gb;refine jY (lL rfl _ (by rfl) (by rfl) (by rfl) U) rfl ?_;rw[HX.out];exact⟨_,rfl,gl.mono fun b hb _=>by have hb:(w1.alloc (.cells #[E.R] 41)).heap.size<=b:=hb;simp at hb;omega,gb⟩
end
section
open Go.RowKit Go.Lib Go.Proofs
theorem y9{w:World}{g:Nat}{t:TypeId}{a:Value}(h:aq w g t #[a]):w.cell? ⟨g,0,none⟩=some a:=(h.cell 0).trans rfl
theorem Ac(part:R Nd)(en:ByteArray)(c:Cx):∀(g:Nat)(acc:List Nd)(s:St)(l:List Nd)(s':St),bh part en g acc c s=.ok l s'->l.length<=acc.length+g
 |0,_,_,_,_,h=>by simp[bh]at h
 | g+1,acc,s,l,s',h=>by
  simp only[bh]at h;split at h
  ·injection h with D _;subst D;omega
  ·cases I:part c s with
   |out=>rw[I]at h;cases h
   | ok n s1=>
    rw[I]at h;simp only[bQ.bind_ok]at h;split at h
    ·injection h with D _;subst D;simp
    ·cases J:bV ⟨#[44]⟩ c s1 with
     |out=>rw[J]at h;cases h
     |ok u s2=>rw[J]at h;have:=Ac part en c g (acc++[n]) s2 l s' h;simp at this;omega
theorem pe{part:R Nd}{en:ByteArray}{c:Cx}{g:Nat}{s:St}{l:List Nd}{s':St}(h:cB (bh part en g []) c s=.ok l s'):l.length<=g:=by
 unfold cB at h;cases D:bh part en g [] c { s with head:=false }with
 |out=>rw[D]at h;cases h
 |ok l1 s1=>rw[D]at h;simp only[bQ.bind_ok]at h;injection h with I _;subst I;have:=Ac part en c g [] _ _ _ D;simpa using this
theorem nJ{X:Nat->Prop}{w:World}{size n:Nat}{A:Option Addr}{xs:List Value}(h:fh X w size A n xs)(hs:0<size):co w w.heap.size size A n xs:=by refine⟨h.1,fun D=>?_⟩;obtain⟨b,off,rfl,_,I⟩:=h.2 D;(have J:0<xs.length:=by rw[h.1];exact Nat.mul_pos D hs);refine⟨_,rfl,jD w _ (I 0 xs[0] (gT J)),fun j u hu=>?_⟩;rw[oX];exact I j u hu
theorem iU{X:Nat->Prop}{w:World}:∀{l:List Nd}{xs:List Value},ah X w l xs->∀u∈xs,u.oneCell'=true
 |[],xs,h=>by unfold ah at h;subst h;simp
 |n::l,xs,h=>by
  unfold ah at h;obtain⟨ys,zs,rfl,J,I⟩:=h;obtain⟨A,cap,_,rfl,_⟩:=J.toV;intro u D;rcases List.mem_append.1 D with D|D
  ·exact rX n A cap u D
  ·exact iU I u D
theorem ot{w:World}{K B:Nat}{a b c d:Value}(hb:aq w K 24 #[a,b,c,d])(hB:B<=K):w.ownsRow B 24 4 (.slice (some ⟨K,0,none⟩) 1 1) 1 [a,b,c,d]:=
 ⟨rfl,.inr ⟨K,1,#[a,b,c,d],rfl,hB,hb,gC _,by unfold maxLen;omega,rfl,rfl⟩⟩
theorem rC{X:Nat->Prop}{w:World}{B n:Nat}{v:Value}{l:List Nd}{xs:List Value}(h:w.ownsRow B 24 4 v n xs)(N:l.length=n)(hX:∀g,v.ownBlock=some g->X g)(I:ah X w l xs):cV X w v l:=by
 subst N;rcases h.2 with⟨rfl,h0⟩|⟨g,cap,cur,rfl,hg,U,D,_,M,J⟩
 ·exact⟨none,0,xs,by rw[h0],by omega,⟨h.1,fun h=>by omega⟩,I⟩
 ·refine⟨_,cap,xs,rfl,D,⟨h.1,fun _=>⟨g,0,rfl,hX g rfl,fun j u hu=>?_⟩⟩,I⟩;(have O:j<l.length*4:=by have:=(List.getElem?_eq_some_iff.1 hu).1;rw[h.1]at this;exact this);rw[kR];unfold World.cell?;rw[U];simp only[qj,gW,jW];rw[<-J,qY O]at hu;rw[<-hu];simp
theorem pf{w:World}{B n:Nat}{t:TypeId}{size:Nat}{v:Value}{xs:List Value}(h:w.ownsRow B t size v n xs):∃A c,v=.slice A n c/\n<=c:=by
 rcases h.2 with⟨rfl,I⟩|⟨g,cap,cur,rfl,_,_,D,_⟩
 ·exact⟨none,0,by rw[I],by omega⟩
 ·exact⟨_,cap,rfl,D⟩
theorem aA.grownNew{E:cw}{s:St}{w w1 w2:World}{K:Nat}(h:aA E s w w1)(D:w1.grownBy w2 (some K))(J:w.heap.size<=K)(I:E.R<K):aA E s w w2:=
 ⟨h.rd.grown D (fun g e=>by injection e with e;omega),D.os.trans h.gr.os,D.tape.trans h.gr.tape,D.output.trans h.gr.output,jZ h.gr.size D.size,fun k hk hne=>(D.block k (kK hk h.gr.size) (fun e=>by injection e with e;omega)).trans (h.gr.block k hk hne)⟩
theorem Me{E:cw}{sA s2:St}{w0 w D N w8:World}{K O G:Nat}{x:Nd}{l:List Nd}{A:Option Addr}{cp:Nat}{A8:Option Addr}{c8:Nat}{ys:List Value}
  (gh:aA E sA w D)(hC:bG (fun b=>w0.heap.size<=b/\b<w.heap.size) D x [.int .i64 x.kind,.string x.text,.slice A x.kids.length cp,.int .i64 x.pos])
  (gn:w0.heap.size<=w.heap.size)(gj:E.R<w0.heap.size)(ga:w.heap.size<=K)(gu:K<D.heap.size)(gq:O<D.heap.size)(h:w.heap.size<=O)(gs:K≠O)(gv:G<D.heap.size)(gk:w.heap.size<=G)(gt:K≠G)(gp:O≠G)
  (M:aA E s2 D.drew N)(gd:ah (fun b=>D.drew.heap.size<=b) N l ys)
  (J:w8.ownsRow K 24 4 (.slice A8 (1+l.length) c8) (1+l.length) ([.int .i64 x.kind,.string x.text,.slice A x.kids.length cp,.int .i64 x.pos]++ys))(I:N.grownBy w8 (some K))
  (U:(Value.slice A8 (1+l.length) c8).ownBlock=some K\/(Value.slice A8 (1+l.length) c8).ownBlock=some N.heap.size)(kind:Int)(t:ByteArray)(pos:Int)(o:Nat)(u:Value):
  af (fun b=>w0.heap.size<=b/\b≠G/\b≠O) (w8.setCell ⟨O,o,none⟩ u) (.agg #[kind,t,.slice A8 (1+l.length) c8,pos]) (.mk kind t (x::l) pos)/\aA E s2 w (w8.setCell ⟨O,o,none⟩ u):=by
 have hd:D.drew.heap.size=D.heap.size:=rfl;have gm:D.heap.size<=N.heap.size:=M.gr.size;have gl:=I.size;have gi:=(((hC.keep (w:=D) (w':=D.drew) (fun _ _ _=>rfl)).keep (w':=N) (am.of_grown (X:=fun b=>w0.heap.size<=b/\b<w.heap.size) M.gr).block).keep (w':=w8) (am.of_grown (X:=fun b=>w0.heap.size<=b/\b<w.heap.size) I).block).mono (Y:=fun b=>w0.heap.size<=b/\b≠G/\b≠O) (fun b hb _=>⟨hb.1,by omega,by omega⟩);have gb:=(gd.keep (w':=w8) (am.of_grown (X:=fun b=>D.drew.heap.size<=b) I).block).mono (Y:=fun b=>w0.heap.size<=b/\b≠G/\b≠O) (fun b hb _=>⟨by omega,by omega,by omega⟩);have gg:=rC (X:=fun b=>w0.heap.size<=b/\b≠G/\b≠O) (l:=x::l) J (by simp;omega) (fun g hg=>by
  rcases U with e|e<;>rw[hg]at e<;>injection e with e
  ·exact⟨by omega,by omega,by omega⟩
  ·exact⟨by omega,by omega,by omega⟩) (ah.cons gi gb)
 have ge:=gg.kept (am.setCell (am.refl (fun b=>w0.heap.size<=b/\b≠G/\b≠O) w8) (p:=⟨O,o,none⟩) (fun hX=>hX.2.2 rfl) u);refine⟨af.of_slice ge kind t pos,?_⟩;exact((gh.drew.trans M).grownNew I ga (by omega)).own (p:=⟨O,o,none⟩) h (by show E.R<O;omega) u
end
section
open Go.RowKit Go.Lib Go.Proofs
attribute [local go_sem ↓] Go.wp_at_zero Go.wp_at_succ
attribute [local go_sem] aR aS aT bu bv bw bz
def T2(E:cw)(F:fK):Prop:=
 ∀ (w0 w:World)(s:St)(x:Nd)(v:Value),E.R<w0.heap.size->w0.grownBy w (some E.R)->aU E w s->af (fun b=>w0.heap.size<=b) w v x->dc F x E.c s≠.out ->
   Calls prog 178 #[E.R,v] w (uU E w0 w (dc F x E.c s))
theorem tP(E:cw)(F:fK)(hF:nE E F):T2 E F:=by
 intro w0 w s x v hR0 hgr0 h hv hno;obtain⟨A,cp,rfl,hC⟩:=hv.toC;generalize hres:dc F x E.c s=res at *;have gb:=hid (show(bV ⟨#[123]⟩ E.c s).bind (fun _ s1=>(cB (bh F.expr ⟨#[125]⟩ F.g []) E.c s1).bind fun l s2=>.ok (.mk 24 ⟨#[]⟩ (x::l) x.pos) s2)=res from hres);have ha:=hid hno;have hq:=h.lt;have hh:=hgr0.size;have hC:=hC.mono (Y:=fun b=>w0.heap.size<=b/\b<w.heap.size) (fun b hb M=>⟨hb,M⟩);have h1:=hF.g;clear hres hno hv;have gg:Below w w (((w.alloc (.cells #[E.R] 41)).alloc (.cells (nv x A cp) 24)).alloc (.cells bJ 24)):=bel;have gj:aq (((w.alloc (.cells #[E.R] 41)).alloc (.cells (nv x A cp) 24)).alloc (.cells bJ 24)) w.heap.size 41 #[E.R]:=((aq.new w _ _).alloc _).alloc _;have gs:aq (((w.alloc (.cells #[E.R] 41)).alloc (.cells (nv x A cp) 24)).alloc (.cells bJ 24)) (w.heap.size+1) 24 (nv x A cp):=(aq.new_at (by simp) _ _).alloc _;have g6:aq (((w.alloc (.cells #[E.R] 41)).alloc (.cells (nv x A cp) 24)).alloc (.cells bJ 24)) (w.heap.size+1+1) 24 bJ:=aq.new_at (by simp) _ _;have gi:=(aA.refl h).step gg;(have hz:w.heap.size+3<=(((w.alloc (.cells #[E.R] 41)).alloc (.cells (nv x A cp) 24)).alloc (.cells bJ 24)).heap.size:=by simp);have hC:=hC.keep (w':=((w.alloc (.cells #[E.R] 41)).alloc (.cells (nv x A cp) 24)).alloc (.cells bJ 24)) (fun b _ M=>gg.block b M);clear gg;(go_enter func178,ntmps178);(go_upto_region 1 with fail);change Code.wp _ _ _ _ (((w.alloc (.cells #[E.R] 41)).alloc (.cells (nv x A cp) 24)).alloc (.cells bJ 24));generalize((w.alloc (.cells #[E.R] 41)).alloc (.cells (nv x A cp) 24)).alloc (.cells bJ 24)=w1 at *;have c0:=y9 gj;go_wp2_with fail;cases hA:aP E.c s ⟨#[123]⟩with
 |false=>exact absurd (show res=.out by rw[<-gb.out,bV];simp[hA]) ha.out
 | true=>
  have HE:=hid (show(cB (bh F.expr ⟨#[125]⟩ F.g []) E.c (adv s)).bind (fun l s2=>.ok (.mk 24 ⟨#[]⟩ (x::l) x.pos) s2)=res by rw[<-gb.out,bV];simp only[hA,kG,bQ.bind_ok]);refine(de E s _ _ gi.rd hA).mono ?_;rintro e U⟨rfl,J⟩;have g9:=gj.grown J.gr;have gq:=gs.grown J.gr;have g5:=g6.grown J.gr;have gx:=gi.trans J;have hy:=J.gr.size;have hC:=hC.keep (w':=U) (am.of_grown (X:=fun b=>w0.heap.size<=b/\b<w.heap.size) J.gr).block;clear gb hA gj gs g6 gi J c0;obtain⟨x0,x1,x2,x3,-,-,-,-⟩:=ab gq;go_wp2_with fail;refine(aM _ _ _ _ _ ⟨_,_,_,rfl⟩).mono ?_;rintro e N⟨rfl,gd⟩;have I:Below U U N:=((gH _ U).alloc (gC _) _).trans (gd.mono (by simp));have g1:=(aq.new U 24 (nv x A cp)).below gd (by simp);have g8:=g9.bl I;have g4:=g5.bl I;have gw:=gx.step I;(have hw:U.heap.size+1<=N.heap.size:=by have:=gd.size;simp at this;omega);have hC:=hC.keep (w':=N) (fun b _ M=>I.block b M);clear gd I g9 g5 gq gx x0 x1 x2 x3;(go_upto_region 3 with fail);have D:=(aj N #[.int .i64 24,.string ⟨#[]⟩,.slice (some ⟨U,0,none⟩) 1 1,.int .i64 x.pos]).1;have gh:=aq.new N 24 #[.int .i64 24,.string ⟨#[]⟩,.slice (some ⟨U,0,none⟩) 1 1,.int .i64 x.pos];have g0:=g1.bl D;have g7:=g8.bl D;have g3:=g4.bl D;have gv:=gw.step D;have hC:=hC.keep (w':=N.alloc (.cells #[.int .i64 24,.string ⟨#[]⟩,.slice (some ⟨U,0,none⟩) 1 1,.int .i64 x.pos] 24)) (fun b _ M=>D.block b M);(have hu:N.heap.size+1<=(N.alloc (.cells #[.int .i64 24,.string ⟨#[]⟩,.slice (some ⟨U,0,none⟩) 1 1,.int .i64 x.pos] 24)).heap.size:=by simp);clear g1 g8 g4 gw D;generalize hKK:U.heap.size=K at *;generalize hOO:N.heap.size=O at *;change Code.wp _ _ _ _ (N.alloc (.cells #[.int .i64 24,.string ⟨#[]⟩,.slice (some ⟨K,0,none⟩) 1 1,.int .i64 x.pos] 24));generalize N.alloc (.cells #[.int .i64 24,.string ⟨#[]⟩,.slice (some ⟨K,0,none⟩) 1 1,.int .i64 x.pos] 24)=w6 at *;clear hKK hOO;(have gy:K≠O:=by omega);(have hl:K≠E.R:=by omega);(have hk:O≠E.R:=by omega);(have gt:O≠w.heap.size+1+1:=by omega);(have gz:K≠w.heap.size+1+1:=by omega);have ho:Hid (sN E 216 (#[] ++ #[.pointer (some ⟨w,0,none⟩)]) (bh F.expr ⟨#[125]⟩ F.g []) w6.drew):=hid (CK E F hF w.heap.size w6.drew (show w6.drew.cell? ⟨w,0,none⟩=_ from y9 g7) (by omega));(have ge:∀a w,(callFunc 216 a).run prog w=.ok (.enter 216 a) w:=fun a w=>by kernel_rfl);have hp:=hid ge;clear ge;have c0:=y9 g7;obtain⟨x0,x1,x2,x3,gn,gm,gl,gk⟩:=ab gh;cases hQ:cB (bh F.expr ⟨#[125]⟩ F.g []) E.c (adv s)with
  |out=>exact absurd HE.out.symm (by rw[hQ];exact ha.out)
  | ok l s2=>
   have HF:Hid (res=.ok (.mk 24 ⟨#[]⟩ (x::l) x.pos) s2):=hid (by rw[<-HE.out,hQ];rfl);have h0:=pe hQ;have HC:=hid (pF E 216 #[] #[w] (bh F.expr ⟨#[125]⟩ F.g []) (adv s) _ gv.drew.rd hp.out ho.out (by rw[hQ];exact nofun));rw[hQ]at HC;obtain⟨i0,hi,hf,he,hc⟩:=qE o0;clear HE hQ;go_region_law (first
    |(refine fm _ (by rfl) (.tmp 14) (.tmp 17) 22 (by rfl) K 24 i0 _ 4 56 underlying22 hi hf he hc (by rfl) (by omega) (.slice (some ⟨K,0,none⟩) 1 1) 1 [.int .i64 x.kind,.string x.text,.slice A x.kids.length cp,.int .i64 x.pos] (by rfl) (ot hn (gC _)) w7.heap.size A7 l.length c7 ys (by rfl) (nJ hj (by omega)) (iU gp) (by unfold maxLen;omega) (by omega) (by omega) ?_;intro v8 w8 hown8 hg8 hat8;obtain⟨A8,c8,rfl,h2⟩:=pf hown8;have hm:=gu.grown hg8 (fun e=>gy (by simpa[Value.ownBlock]using e.symm));obtain⟨x0,x1,x2,x3,gn,gm,gl,gk⟩:=ab hm)
    |(go_simp;(go_at_call 173);refine HC.out.mono ?_;rintro e w7⟨⟨v7,rfl,hg⟩,ga⟩;obtain⟨A7,c7,ys,rfl,hr,hj,gp⟩:=hg;have gu:=gh.drew.grown ga.gr (fun e=>hk (by injection e));have hn:=g0.drew.grown ga.gr (fun e=>hl (by injection e));have ht:w6.heap.size<=w7.heap.size:=ga.gr.size;obtain⟨x0,x1,x2,x3,gn,gm,gl,gk⟩:=ab gu))
   all_goals have hN:=Me (G:=w.heap.size+1+1) (u:=.slice A8 (1+l.length) c8) (o:=2) gv hC hh hR0 (by omega) g0.lt gh.lt (by omega) gy g3.lt (by omega) gz gt ga gp hown8 hg8 hat8 24 ⟨#[]⟩ x.pos;have g2:=((g3.drew.grown ga.gr).grown hg8 (fun e=>gz (by simpa[Value.ownBlock]using e.symm))).far (p:=⟨O,2,none⟩) (by exact gt.symm) (.slice A8 (1+l.length) c8);obtain⟨d0,d1,d2,d3,e0,e1,e2,e3⟩:=ab g2;go_wp2_with fail;refine mn HF.out hN.1 hN.2 g2 (by omega) (by omega) ?_ rfl (by rfl) rfl;intro b hb;exact⟨hb.1,hb.2.1⟩
theorem Em(E:cw)(F:fK)(hF:nE E F)(types:Bool)(w:World)(s:St)(h:aU E w s)(gq:iD F types E.c s≠.out):
  Calls prog 215 #[E.R,.bool types] w (mu E w (iD F types E.c s)):=by
 generalize D:iD F types E.c s=res at *;have gg:=hid (show(F.typ E.c s).bind (fun t s1=>if types&&iR E.c s1 then .ok t s1 else dc F t E.c s1)=res from D);have gh:=hid gq;have ga:=h.lt;clear D gq;have gi:=(aA.refl h).alloc (.cells bJ 24);have gw:=aq.new w 24 bJ;(have g3:w.heap.size+1<=(w.alloc (.cells bJ 24)).heap.size:=by simp);(go_enter func215,ntmps215);go_wp2_with fail;change Calls _ _ _ (w.alloc (.cells bJ 24)) _;cases hP:F.typ E.c s with
 |out=>exact absurd gg.out.symm (by rw[hP];exact gh.out)
 | ok n s1=>
  have M:=hid (show(if types&&iR E.c s1 then .ok n s1 else dc F n E.c s1)=res by rw[<-gg.out,hP];rfl);refine(hF.typ _ s gi.rd (by rw[hP];exact nofun)).mono ?_;rw[hP];rintro e w3⟨⟨v,rfl,hv⟩,U⟩;obtain⟨A3,c3,rfl,gz⟩:=hv.toC;have gv:=gw.grown U.gr;have gu:=gi.trans U;have g2:=U.gr.size;have I:=(aj w3 (nv n A3 c3)).1;have gk:=aq.new w3 24 (nv n A3 c3);have gd:=gu.step I;have gj:=gv.bl I;have gl:=hv.keep (w':=w3.alloc (.cells (nv n A3 c3) 24)) fun b _ hlt=>I.block b hlt;have gb:=U.gr.trans (di (some E.R) I);have g1:=I.size;clear hP gg hv gz gu gv gw U I;(go_upto_region 2 with fail);change Code.wp _ _ _ _ (w3.alloc (.cells (nv n A3 c3) 24));generalize hXX:w3.heap.size=X at *;generalize w3.alloc (.cells (nv n A3 c3) 24)=w4 at *;clear hXX;obtain⟨x0,x1,x2,x3,-,-,-,-⟩:=ab gk;obtain⟨d0,d1,d2,d3,e0,e1,e2,e3⟩:=ab gj;cases types with
  |false=>
   have HF:Hid (dc F n E.c s1=res):=hid M.out;clear M d0 d1 d2 d3 e0 e1 e2 e3;go_wp2_with fail;refine(tP E F hF (w.alloc (.cells bJ 24)) w4 s1 n _ gi.rd.lt gb gd.rd gl (by rw[HF.out];exact gh.out)).mono ?_;rw[HF.out];unfold uU;cases D:res with
   |out=>exact absurd D gh.out
   |ok n5 s5=>rintro e w6⟨⟨v6,rfl,N⟩,O⟩;obtain⟨A6,c6,rfl,gy⟩:=N.toC;have ge:=gj.grown O.gr;have gm:=gd.trans O;obtain⟨d0,d1,d2,d3,e0,e1,e2,e3⟩:=ab ge;go_wp2_with fail;refine av (by first|rfl|exact D) N gm ge (gC _) ga ?_ rfl (by rfl) rfl;intro b hb;constructor<;>omega
  | true=>
   go_wp2_with fail;refine(uF E s1 _ gd.rd).mono ?_;rintro e w5⟨rfl,J⟩;have gp:=gj.bl J.bel;have gx:=gk.bl J.bel;have gn:=gd.trans J.moved;have gt:=gl.keep (w':=w5) fun b _ hlt=>J.bel.block b hlt;have gs:=gb.trans (di (some E.R) J.bel);have g0:=J.bel.size;clear x0 x1 x2 x3 d0 d1 d2 d3 e0 e1 e2 e3 gj gk gd gl gb J;obtain⟨x0,x1,x2,x3,-,-,-,-⟩:=ab gx;cases hE:iR E.c s1 with
   |true=>have HF:Hid (res=.ok n s1):=hid (by rw[<-M.out,hE];rfl);obtain⟨d0,d1,d2,d3,e0,e1,e2,e3⟩:=ab gp;clear M hE;go_wp2_with fail;refine av HF.out gt gn gp (gC _) ga ?_ rfl (by rfl) rfl;intro b hb;constructor<;>omega
   |false=>
    have HF:Hid (dc F n E.c s1=res):=hid (by rw[<-M.out,hE];rfl);clear M hE;go_wp2_with fail;refine(tP E F hF (w.alloc (.cells bJ 24)) w5 s1 n _ gi.rd.lt gs gn.rd gt (by rw[HF.out];exact gh.out)).mono ?_;rw[HF.out];unfold uU;cases D:res with
    |out=>exact absurd D gh.out
    |ok n5 s5=>rintro e w6⟨⟨v6,rfl,N⟩,O⟩;obtain⟨A6,c6,rfl,gy⟩:=N.toC;have ge:=gp.grown O.gr;have gm:=gn.trans O;obtain⟨d0,d1,d2,d3,e0,e1,e2,e3⟩:=ab ge;go_wp2_with fail;refine av (by first|rfl|exact D) N gm ge (gC _) ga ?_ rfl (by rfl) rfl;intro b hb;constructor<;>omega
end
section
open Go.RowKit Go.Lib Go.Proofs
attribute [local go_sem ↓] Go.wp_at_zero Go.wp_at_succ
attribute [local go_sem] aR aS aT
theorem lM{E:cw}{s:St}{w w':World}(h:aU E w s)(D:w.grownBy w' (some E.R))(h':aU E w' s):Below w w w':=
 ⟨D.os,D.tape,D.output,D.size,fun b hb=>by
  by_cases e:b=E.R
  ·subst e;exact Eq.trans (show w'.heap[E.R]? = _ from h'.blk) (show w.heap[E.R]? = _ from h.blk).symm
  ·exact D.block b hb (fun e'=>e (by injection e'))⟩
theorem sk(E:cw)(s:St)(n:Nat)(D:n<=E.c.toks.length)(K B:Nat)(w:World)(h:aU E w s)(k0:w.cell? ⟨K,0,none⟩=some (.int .i64 (n:Int)))(b0:w.cell? ⟨B,0,none⟩=some (.pointer (some ⟨E.R,0,none⟩))):
  CallsD prog 232 #[K,B] .returning w fun e u' w'=>u'=.returning/\(e=.returned (.tuple #[])/\aA E { s with at_:=n } w w'):=by obtain⟨c0,c1,-,-,-,cf⟩:=h.cells;have I:=h.lt;have f1:=cf 1;have J:=(aA.refl h).setAt n D;clear h;(go_enter_d func232,ntmps232);go_wp2_with fail;exact⟨rfl,_,vp rfl _ _ _,rfl,J⟩
theorem En(E:cw)(s:St)(w:World)(h:aU E w s):Calls prog 229 #[E.R] w fun e w'=>e=.returned (.bool (i9 E.c s))/\Below w w w':=by
 have hi:∀(fn:Fn)(first cap:Array Value)(w:World),(Instr.makeFunc fn first cap).run prog w=.ok (.func fn first cap) w:=fun _ _ _ _=>rfl;have g9:=h.most;have hf:=h.lt;have H:=hid h;have ge:Below w w (w.alloc (.cells #[E.R] 41)):=(gH _ _).alloc (gC _) _;have gp:=aq.new w 41 #[E.R];have h0:=h.alloc (.cells #[E.R] 41);(have gq:w.heap.size+1=(w.alloc (.cells #[E.R] 41)).heap.size:=by simp);have b0:=ce gp;obtain⟨c0,c1,-,-,-,-⟩:=h0.cells;have g2:IntKind.i64.wrap ((s.at_:Int)+2)=(s.at_:Int)+2:=jC _ (by have:=h.le;omega);have g1:IntKind.i64.wrap ((s.at_:Int)+1)=(s.at_:Int)+1:=jC _ (by have:=h.le;omega);by_cases hA:s.at_+2<E.c.toks.length
 case neg=>(have hN:i9 E.c s=false:=by unfold i9;rw[gP hA];rfl);rw[hN];(have g3:decide ((s.at_:Int)+2>=(E.c.toks.length:Int))=true:=by rw[gR];omega);(have he:(E.c.toks.length:Int)<=(s.at_:Int)+2:=by omega);clear hN H h h0;(go_enter_defers func229,ntmps229);go_wp2_with fail;go_quiet (fail);go_wp2_with fail;simp[bodyPostD,Leaves,results,results229,go_sem];exact bK ge nq
 obtain⟨b,off,eA,hj,t0,t1,t2⟩:=h0.tok (s.at_+1) (by omega);rw[eA]at c0;(have g3:decide ((s.at_:Int)+2>=(E.c.toks.length:Int))=false:=by rw[gK];omega);(have he:¬ ((E.c.toks.length:Int)<=(s.at_:Int)+2):=by omega);(have g4:(0:Int)<=(s.at_:Int)+1:=by omega);(have g5:(s.at_:Int)+1<(E.c.toks.length:Int):=by omega);(have g6:((s.at_:Int)+1).toNat=s.at_+1:=by omega);by_cases hK:(az E.c (s.at_+1)).kind=1
 case neg=>(have hN:i9 E.c s=false:=by unfold i9;rw[jK hA,beq_eq_false_iff_ne.2 hK];rfl);rw[hN];(have g7:((az E.c (s.at_+1)).kind != 1)=true:=by rw[vc];exact hK);(have g8:((az E.c (s.at_+1)).kind==1)=false:=by rw[gF];exact hK);generalize az E.c (s.at_+1)=tk at *;clear hN H h h0;(go_enter_defers func229,ntmps229);go_wp2_with fail;go_quiet (fail);go_wp2_with fail;simp[bodyPostD,Leaves,results,results229,go_sem];exact bK ge nq
 (have g7:((az E.c (s.at_+1)).kind != 1)=false:=by rw[hK];rfl);(have g8:((az E.c (s.at_+1)).kind==1)=true:=by rw[hK];rfl);(have hN:i9 E.c s=((az E.c (s.at_+2)).kind==1||(aP E.c { s with at_:=s.at_+2 } (⟨#[102,117,110,99]⟩:BA)||(aP E.c { s with at_:=s.at_+2 } (⟨#[40]⟩:BA)||cY E.c { s with at_:=s.at_+2 }))):=by unfold i9;rw[jK hA,g8];rfl);rw[hN];clear hN;generalize az E.c (s.at_+1)=tk at *;generalize hq:({ s with at_:=s.at_+2 }:St)=q at *;have D:=hid hq;(have gz:q.at_=s.at_+2:=by rw[<-hq]);clear hq;(go_enter_defers func229,ntmps229);go_wp2_with fail;go_quiet (fail);have gn:=gp.drewN nq;have gi:=((aA.refl H.out).alloc (.cells #[E.R] 41)).drewN nq;have hh:w.heap.size+1=((w.alloc (.cells #[E.R] 41)).drewN nq).heap.size:=gq;(have J:s.at_<=E.c.toks.length:=by omega);clear h h0 b0 c0 c1 t0 t1 t2 ge gq gp;generalize(w.alloc (.cells #[E.R] 41)).drewN nq=w1 at *;have b1:=ce gn;obtain⟨-,c1,-,-,-,-⟩:=gi.rd.cells;(go_upto_region 4 with fail);have gm:=gn.alloc (.cells #[.int .i64 (s.at_:Int)] 3);have gw:=aq.new w1 3 #[.int .i64 (s.at_:Int)];have gh:=gi.alloc (.cells #[.int .i64 (s.at_:Int)] 3);(have hg:w1.heap.size+1=(w1.alloc (.cells #[.int .i64 (s.at_:Int)] 3)).heap.size:=by simp);clear b1 c1 gn gi;change Code.wp _ _ _ _ (w1.alloc (.cells #[.int .i64 (s.at_:Int)] 3));generalize hKK:w1.heap.size=K at *;generalize w1.alloc (.cells #[.int .i64 (s.at_:Int)] 3)=w2 at *;clear hKK;have b2:=ce gm;obtain⟨-,c1,-,-,-,cf⟩:=gh.rd.cells;have f1:=cf 1;have gy:=gm.far (p:=⟨E.R,1,none⟩) (by show w.heap.size≠E.R;omega) (.int .i64 ((s.at_:Int)+2));have hc:=gw.far (p:=⟨E.R,1,none⟩) (by show K≠E.R;omega) (.int .i64 ((s.at_:Int)+2));have gg:=gh.setAt (s.at_+2) (by omega);rw[show((s.at_+2:Nat):Int)=(s.at_:Int)+2 from rfl,D.out]at gg;have b3:=ce gy;(go_upto_region 6 with fail);generalize w2.setCell ⟨E.R,1,none⟩ (.int .i64 ((s.at_:Int)+2))=w3 at *;clear c1 cf f1 b2 gm gw gh;go_wp2_with fail;refine(bL E q w3 gg.rd).mono ?_;unfold fY;rw[gz];rintro e w4⟨rfl,U⟩;have gl:=gy.bl U;have gv:=hc.bl U;have gd:=gg.step U;have b4:=ce gl;clear b3;cases h1:((az E.c (s.at_+2)).kind==1)with
 |true=>clear U;go_wp2_with fail;refine vu (f:=232) (args:=#[K,w]) (by simp) (by simp[go_sem]) ?_;refine(sk E q s.at_ J K w.heap.size _ gd.rd (ce gv) (ce gl)).mono ?_;rintro e u' w10⟨rfl,rfl,I⟩;simp[Leaves,settle,results,results229,go_sem];exact⟨.inl (beq_iff_eq.1 h1),lM H.out (gd.gr.trans I.gr) (by have:=I.rd;rw[<-D.out]at this;exact this)⟩
 | false=>
  go_wp2_with fail;refine(bY E q ⟨#[102,117,110,99]⟩ w4 gd.rd).mono ?_;rintro e w5⟨rfl,O⟩;have gk:=gl.bl O;have gu:=gv.bl O;have gb:=gd.step O;have b5:=ce gk;clear b4;cases h2:aP E.c q ⟨#[102,117,110,99]⟩with
  |true=>clear O;go_wp2_with fail;refine vu (f:=232) (args:=#[K,w]) (by simp) (by simp[go_sem]) ?_;refine(sk E q s.at_ J K w.heap.size _ gb.rd (ce gu) (ce gk)).mono ?_;rintro e u' w10⟨rfl,rfl,I⟩;simp[Leaves,settle,results,results229,go_sem];exact⟨.inr (.inl h2),lM H.out (gb.gr.trans I.gr) (by have:=I.rd;rw[<-D.out]at this;exact this)⟩
  |false=>
   go_wp2_with fail;refine(bY E q ⟨#[40]⟩ w5 gb.rd).mono ?_;rintro e w6⟨rfl,N⟩;have gj:=gk.bl N;have gt:=gu.bl N;have ga:=gb.step N;have b6:=ce gj;clear b5;cases h3:aP E.c q ⟨#[40]⟩with
   |true=>clear N;go_wp2_with fail;refine vu (f:=232) (args:=#[K,w]) (by simp) (by simp[go_sem]) ?_;refine(sk E q s.at_ J K w.heap.size _ ga.rd (ce gt) (ce gj)).mono ?_;rintro e u' w10⟨rfl,rfl,I⟩;simp[Leaves,settle,results,results229,go_sem];exact⟨.inr (.inr (.inl h3)),lM H.out (ga.gr.trans I.gr) (by have:=I.rd;rw[<-D.out]at this;exact this)⟩
   |false=>go_wp2_with fail;refine(pG E q w6 ga.rd).mono ?_;rintro e w7⟨rfl,g0⟩;have M:=g0.bel;have gx:=gj.bl M;have ha:=gt.bl M;have gs:=ga.step M;have b7:=ce gx;clear b6;clear M;go_wp2_with fail;refine vu (f:=232) (args:=#[K,w]) (by simp) (by simp[go_sem]) ?_;refine(sk E q s.at_ J K w.heap.size _ gs.rd (ce ha) (ce gx)).mono ?_;rintro e u' w10⟨rfl,rfl,I⟩;simp[Leaves,settle,results,results229,go_sem];exact⟨by rw[h1,h2,h3];rfl,lM H.out (gs.gr.trans I.gr) (by have:=I.rd;rw[<-D.out]at this;exact this)⟩
end
end Go.Proofs.YteialcjaiocjdaaGreatDoor
