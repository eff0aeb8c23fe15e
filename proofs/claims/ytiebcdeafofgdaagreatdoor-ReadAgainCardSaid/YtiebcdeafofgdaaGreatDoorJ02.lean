/-
  Parts of the proof: Prel Gspec Gneed Rmem Die Rsmall Rrow Rfree Rslice Rkit Lpl. By an AI agent.
-/
import Derived.Test.YtiebcdeafofgdaaGreatDoorJ01
import Derived.Test.YtiebcdeafofgdaaGreatDoorJ00
import Derived.Test.YtiebcdeafofgdaaGreatDoorProg
import Derived.WalkKit
import Derived.Lib.Hide
import Derived.WalkLawsBesides
import Derived.WalkSpells
import Derived.RegionTactic
import Derived.Deep.QuietTactic
import Derived.BigQuiet
import Derived.Deep.DeepCutAuto
import Derived.Deep.CutBlock
import Derived.Deep.RegionHeld3
import Derived.Deep.RegionWith
import Derived.StillTailTactics
import Derived.Outline
import Derived.Deep.DrawnRows
import Derived.Deep.Draws
import Derived.Deep.RegionHeld2
import Derived.Defers
import Derived.Recover
import Derived.IntWalk
import Derived.Lib.Replace
import Derived.Lib.IndexBytes
set_option maxRecDepth 100000
set_option maxHeartbeats 8000000
namespace Go.Proofs.YtiebcdeafofgdaaGreatDoor
section
theorem gG:type_of% @Go.RowKit.Below.refl:=@Go.RowKit.Below.refl
theorem gJ:type_of% @List.length_append:=@List.length_append
theorem gO:type_of% @Go.IntWalk.i64_in:=@Go.IntWalk.i64_in
theorem gS:type_of% @decide_eq_true_iff:=@decide_eq_true_iff
theorem gT:type_of% @Bool.false_eq_true:=@Bool.false_eq_true
theorem gX:type_of% @Go.World.block_lt_of_cell?:=@Go.World.block_lt_of_cell?
theorem jF:type_of% @Go.wp_at_zero:=@Go.wp_at_zero
theorem jG:type_of% @Go.wp_at_succ:=@Go.wp_at_succ
theorem jH:type_of% @congrArg:=@congrArg
theorem jL:type_of% @Go.bodyPost_ret:=@Go.bodyPost_ret
theorem jO:type_of% @Go.World.size_alloc:=@Go.World.size_alloc
theorem jS:type_of% @Go.wpQuiet_nil:=@Go.wpQuiet_nil
theorem jV:type_of% @List.length_map:=@List.length_map
theorem jY:type_of% @if_false:=@if_false
theorem kH:type_of% @Nat.lt_of_lt_of_le:=@Nat.lt_of_lt_of_le
theorem kJ:type_of% @if_true:=@if_true
theorem kR:type_of% @Nat.zero_add:=@Nat.zero_add
theorem qa:type_of% @List.map_append:=@List.map_append
theorem qb:type_of% @Bool.eq_iff_iff:=@Bool.eq_iff_iff
theorem qe:type_of% @Nat.ne_of_lt:=@Nat.ne_of_lt
theorem qo:type_of% @Option.isSome_none:=@Option.isSome_none
theorem qH:type_of% @Go.info_parts:=@Go.info_parts
theorem qJ:type_of% @Go.ByteArray.toList_eq:=@Go.ByteArray.toList_eq
theorem qM:type_of% @List.not_mem_nil:=@List.not_mem_nil
theorem qS:type_of% @Go.World.ownsRow_nil:=@Go.World.ownsRow_nil
theorem qV:type_of% @List.getElem?_take_of_lt:=@List.getElem?_take_of_lt
theorem vd:type_of% @List.mem_cons:=@List.mem_cons
theorem vj:type_of% @Go.wp_append_lies:=@Go.wp_append_lies
mutual
def mN:Nd->Nd
 | .mk k t l _=>.mk k t (pB l) 0
def pB:List Nd->List Nd
 |[]=>[]
 |n::l=>mN n::pB l
end
theorem ft(k t l a):mN (.mk k t l a)=.mk k t (pB l) 0:=by rw[mN]
theorem mq:∀l,pB l=l.map mN
 |[]=>by rw[pB];rfl
 |n::l=>by rw[pB,mq l];rfl
theorem Gc(l m:List Nd):pB (l++m)=pB l++pB m:=by rw[mq,mq,mq,qa]
def cA(n m:Nd):Prop:=mN n=mN m
def bm(l m:List Nd):Prop:=pB l=pB m
section
variable {n m:Nd} {l l':List Nd}
theorem cA.kind(h:cA n m):n.kind=m.kind:=by obtain⟨k,t,l,a⟩:=n;obtain⟨k',t',l',a'⟩:=m;unfold cA at h;rw[ft,ft]at h;injection h
theorem cA.text(h:cA n m):n.text=m.text:=by obtain⟨k,t,l,a⟩:=n;obtain⟨k',t',l',a'⟩:=m;unfold cA at h;rw[ft,ft]at h;injection h
theorem cA.kids(h:cA n m):bm n.kids m.kids:=by obtain⟨k,t,l,a⟩:=n;obtain⟨k',t',l',a'⟩:=m;unfold cA at h;rw[ft,ft]at h;injection h
theorem cA.mk{k t}(h:bm l l')(a a':Int):cA (.mk k t l a) (.mk k t l' a'):=by unfold cA;rw[ft,ft,show pB l=pB l' from h]
theorem bm.len(h:bm l l'):l.length=l'.length:=by have:=jH List.length h;rw[mq,mq,jV,jV]at this;exact this
theorem bm.nil:bm [] []:=rfl
theorem bm.app(h:bm l l'){p q:List Nd}(D:bm p q):bm (l++p) (l'++q):=by unfold bm;rw[Gc,Gc,show pB l=pB l' from h,show pB p=pB q from D]
theorem bm.cons(h:cA n m)(D:bm l l'):bm (n::l) (m::l'):=by unfold bm;rw[pB,pB,show mN n=mN m from h,show pB l=pB l' from D]
theorem bm.one(h:cA n m):bm [n] [m]:=bm.cons h bm.nil
theorem cA.refl(n:Nd):cA n n:=rfl
end
def T4(f:Int->Int)(t:cY):cY:={ t with pos:=f t.pos }
structure T6(c c':Cx)(k:Nat)(d:Int->Int):Prop where
 drop:c'.toks.drop k=c.toks.map (T4 d)
 len:c'.toks.length=c.toks.length+k
def TL(c c':Cx)(d:Int->Int)(p p':Int):Prop:=p'=d p\/(p=c.fin/\p'=c'.fin)
structure Ax(k:Nat)(s s':St):Prop where
 at_:s'.at_=s.at_+k
 head:s'.head=s.head
 part:∀m:Nat,s'.part=((m+k:Nat):Int)↔s.part=(m:Int)
def sh{α:Type}(c c':Cx)(k:Nat)(d:Int->Int)(Q:α->α->Prop):bH α->bH α->Prop
 | .ok a s,.ok a' s'=>Q a a'/\Ax k s s'
 | .fail p,.fail p'=>TL c c' d p p'
 | .out,.out=>True
 |_,_=>False
section
variable {c c':Cx} {k:Nat} {d:Int->Int}
theorem sh.bindE{α β:Type}{Q:α->α->Prop}{Q':β->β->Prop}{r r':bH α}{f f':α->St->bH β}(h:sh c c' k d Q r r')(D:∀a a' s s',r=.ok a s->Q a a'->Ax k s s'->sh c c' k d Q' (f a s) (f' a' s')):sh c c' k d Q' (r.bind f) (r'.bind f'):=by
 cases r<;>cases r'<;>first|exact h.elim|skip
 ·exact D _ _ _ _ rfl h.1 h.2
 ·exact h
 ·trivial
theorem sh.bind{α β:Type}{Q:α->α->Prop}{Q':β->β->Prop}{r r':bH α}{f f':α->St->bH β}(h:sh c c' k d Q r r')(D:∀a a' s s',Q a a'->Ax k s s'->sh c c' k d Q' (f a s) (f' a' s')):sh c c' k d Q' (r.bind f) (r'.bind f'):=
 h.bindE fun a a' s s' _=>D a a' s s'
theorem sh.ok{α:Type}{Q:α->α->Prop}{a a':α}{s s':St}(h:Q a a')(hs:Ax k s s'):sh c c' k d Q (.ok a s) (.ok a' s'):=⟨h,hs⟩
theorem sh.ite{α:Type}{Q:α->α->Prop}{p p':Prop}[Decidable p][Decidable p']{x y x' y':bH α}(D:p'↔p)(J:sh c c' k d Q x x')(I:sh c c' k d Q y y'):sh c c' k d Q (if p then x else y) (if p' then x' else y'):=by
 by_cases h:p
 ·rw[gE h,gE (D.2 h)];exact J
 ·rw[gA h,gA (fun h'=>h (D.1 h'))];exact I
variable (hE:T6 c c' k d)
include hE
omit hE in
theorem Ax.adv{s s':St}(h:Ax k s s'):Ax k (adv s) (adv s'):=⟨by show s'.at_+1=s.at_+1+k;rw[h.at_];omega,h.head,h.part⟩
omit hE in
theorem Ax.hd{s s':St}(h:Ax k s s')(b:Bool):Ax k { s with head:=b } { s' with head:=b }:=⟨h.at_,rfl,h.part⟩
omit hE in
theorem Ax.hd2{s s' t t':St}(h:Ax k s s')(D:Ax k t t'):Ax k { s with head:=t.head } { s' with head:=t'.head }:=⟨h.at_,D.head,h.part⟩
omit hE in
theorem Ax.pt{s s':St}(h:Ax k s s'):Ax k { s with part:=(s.at_:Int) } { s' with part:=(s'.at_:Int) }:=⟨h.at_,h.head,fun m=>by show((s'.at_:Nat):Int)=_↔((s.at_:Nat):Int)=_;rw[h.at_];omega⟩
omit hE in
theorem Ax.no{s s':St}(h:Ax k s s'):Ax k { s with part :=-1 } { s' with part :=-1 }:=⟨h.at_,h.head,fun m=>by show(-1:Int)=_↔(-1:Int)=_;omega⟩
variable {s s':St} (hs:Ax k s s')
include hs
omit hs
def Rl(c c':Cx)(k:Nat)(d:Int->Int)(f f':R Nd):Prop:=∀s s',Ax k s s'->sh c c' k d cA (f c s) (f' c' s')
structure TM(c c':Cx)(k:Nat)(d:Int->Int)(F:fJ):Prop where
 typ:Rl c c' k d F.typ F.typ
 expr:Rl c c' k d F.expr F.expr
 unary:Rl c c' k d F.unary F.unary
 stmt:Rl c c' k d F.stmt F.stmt
 ifS:Rl c c' k d F.ifS F.ifS
variable {F:fJ} (hF:TM c c' k d F)
include hF
omit hE hF in
mutual
theorem ru:∀n:Nd,bJ (mN n)=(bJ n).map mN
 | .mk k t l a=>by
  rw[ft];unfold bJ;by_cases J:k=10\/k=11\/k=12
  ·rw[gE J,gE J,m7,ft]
  ·rw[gA J,gA J];by_cases I:k=18
   ·rw[gE I,gE I,m7,ft,pB]
   ·rw[gA I,gA I];by_cases D:k=22
    ·rw[gE D,gE D];cases l with
     |nil=>rw[pB];rfl
     |cons x r=>
      rw[pB];simp only;rw[ru x,yz r];cases bJ x with
      |none=>rfl
      |some y=>
       obtain⟨O,M,N,a2⟩:=y;simp only[m7,ft,mq,jV];split
       ·cases cJ r with
        |none=>rfl
        |some r'=>simp only[m7,ft,mq]
       ·rfl
    ·rw[gA D,gA D];rfl
theorem yz:∀l:List Nd,cJ (pB l)=(cJ l).map pB
 |[]=>by rw[pB];unfold cJ;rfl
 |x::r=>by
  rw[pB];unfold cJ;rw[ru x,yz r];cases bJ x with
  |none=>rfl
  |some y=>cases cJ r with
    |none=>rfl
    |some r'=>simp only[m7,pB]
end
omit hE hF in
theorem Fi{n n':Nd}(h:cA n n'):(bJ n=none/\bJ n'=none)\/∃t t',bJ n=some t/\bJ n'=some t'/\cA t t':=by
 (have e:(bJ n).map mN=(bJ n').map mN:=by rw[<-ru,<-ru,show mN n=mN n' from h]);cases I:bJ n with
 |none=>
  cases D:bJ n' with
  |none=>exact .inl ⟨rfl,rfl⟩
  |some y=>rw[I,D]at e;cases e
 |some x=>
  cases D:bJ n' with
  |none=>rw[I,D]at e;cases e
  |some y=>rw[I,D]at e;injection e with e;exact .inr ⟨x,y,rfl,rfl,e⟩
end
def Ty:Nat->Nd->Prop
 |0,_=>True
 |g+1,n=>((n.kind=2\/n.kind=4->1<=n.kids.length)/\(n.kind=3\/n.kind=22->2<=n.kids.length))/\∀k∈n.kids,Ty g k
def ND(k:Int)(m:Nat):Prop:=(k=2\/k=4->1<=m)/\(k=3\/k=22->2<=m)
mutual
def uM:Nd->Prop
 | .mk k _ l _=>ND k l.length/\Ek l
def Ek:List Nd->Prop
 |[]=>True
 |n::l=>uM n/\Ek l
end
theorem BH:∀l:List Nd,Ek l↔∀k∈l,uM k
 |[]=>by simp[Ek]
 |n::l=>by rw[Ek,BH l];simp
theorem BI(n:Nd):uM n↔ND n.kind n.kids.length/\∀k∈n.kids,uM k:=by
 cases n with
 |mk k t l a=>rw[uM,BH];rfl
theorem uM.need:∀(g:Nat)(n:Nd),uM n->Ty g n
 |0,_,_=>trivial
 |g+1,n,h=>⟨((BI n).1 h).1,fun k hk=>uM.need g k (((BI n).1 h).2 k hk)⟩
section
variable {F:dM}
end
end
section
open Go.RowKit Go.Lib Go.Proofs
attribute [local go_sem ↓] Go.wp_at_zero Go.wp_at_succ
def ou(t:cY):List Value:=[.int .i64 t.kind,.string t.text,.int .i64 t.pos]
theorem fZ(t:cY):(ou t).length=3:=rfl
structure co where
 R:Nat
 A:Option Addr
 cap:Nat
 c:Cx
 w0:World
def sG(E:co)(s:St):Array Value:=#[.slice E.A E.c.toks.length E.cap,.int .i64 s.at_,.int .i64 E.c.fin,.bool s.head,.int .i64 s.part]
def ON(E:co)(w:World):Prop:=∀b,b<E.R->w.heap[b]? = E.w0.heap[b]?
structure aR(E:co)(w:World)(s:St):Prop where
 blk:au w E.R 62 (sG E s)
 toks:fU (· < E.R) w 3 E.A E.c.toks.length (E.c.toks.flatMap ou)
 le:s.at_<=E.c.toks.length
 most:E.c.toks.length<=1000000
 fits:E.c.toks.length<=E.cap
 old:ON E w
section
variable {E:co} {w w':World} {s s':St}
theorem aR.lt(h:aR E w s):E.R<w.heap.size:=h.blk.lt
theorem aR.keep(h:aR E w s)(D:∀b,b<=E.R->w'.heap[b]? = w.heap[b]?):aR E w' s:=
 ⟨(D _ (d5 _)).trans h.blk,h.toks.keep (fun b hb _=>D b (jN hb)),h.le,h.most,h.fits,fun b hb=>(D b (jN hb)).trans (h.old b hb)⟩
theorem aR.below(h:aR E w s)(hb:Below w w w'):aR E w' s:=h.keep fun b hbR=>hb.block b (Nat.lt_of_le_of_lt hbR h.lt)
theorem aR.drew(h:aR E w s):aR E w.drew s:=h.below (gG _ _).drew
theorem aR.drewN(h:aR E w s)(n:Nat):aR E (w.drewN n) s:=h.below (below_drewN (gG _ _) n)
theorem aR.alloc(h:aR E w s)(o:Obj):aR E (w.alloc o) s:=h.below ((gG _ _).alloc (d5 _) o)
theorem aR.far(h:aR E w s){p:Addr}(D:E.R<p.block)(u:Value):aR E (w.setCell p u) s:=
 h.keep fun b hb=>jQ w p u b (by omega)
theorem aR.grown(h:aR E w s){row:Option Nat}(I:w.grownBy w' row)(D:∀g,row=some g->E.R<g):aR E w' s:=
 h.keep fun b hb=>I.block b (Nat.lt_of_le_of_lt hb h.lt) (fun e=>by have:=D b e.symm;omega)
theorem aR.toks_keep(h:aR E w s)(D:w.grownBy w' (some E.R)):fU (· < E.R) w' 3 E.A E.c.toks.length (E.c.toks.flatMap ou):=
 h.toks.keep fun b hb hlt=>D.block b hlt (fun e=>by injection e with e;omega)
theorem aR.setAt(h:aR E w s)(n:Nat)(D:n<=E.c.toks.length):aR E (w.setCell ⟨E.R,1,none⟩ (.int .i64 (n:Int))) { s with at_:=n } :=
 ⟨by simpa[sG]using h.blk.set_ 1 (.int .i64 (n:Int)),h.toks_keep (lk _ _ _ _),D,h.most,h.fits,fun k hk=>(jQ w _ _ k (by show k≠E.R;omega)).trans (h.old k hk)⟩
theorem aR.setHead(h:aR E w s)(b:Bool):aR E (w.setCell ⟨E.R,3,none⟩ (.bool b)) { s with head:=b } :=
 ⟨by simpa[sG]using h.blk.set_ 3 (.bool b),h.toks_keep (lk _ _ _ _),h.le,h.most,h.fits,fun k hk=>(jQ w _ _ k (by show k≠E.R;omega)).trans (h.old k hk)⟩
theorem aR.setPart(h:aR E w s)(n:Int):aR E (w.setCell ⟨E.R,4,none⟩ (.int .i64 n)) { s with part:=n } :=
 ⟨by simpa[sG]using h.blk.set_ 4 (.int .i64 n),h.toks_keep (lk _ _ _ _),h.le,h.most,h.fits,fun k hk=>(jQ w _ _ k (by show k≠E.R;omega)).trans (h.old k hk)⟩
theorem aR.cells(h:aR E w s):w.cell? ⟨E.R,0,none⟩=some (.slice E.A E.c.toks.length E.cap)/\w.cell? ⟨E.R,1,none⟩=some (.int .i64 s.at_)/\w.cell? ⟨E.R,2,none⟩=some (.int .i64 E.c.fin) /\
  w.cell? ⟨E.R,3,none⟩=some (.bool s.head)/\w.cell? ⟨E.R,4,none⟩=some (.int .i64 s.part)/\(∀i,w.frozen? ⟨E.R,i,none⟩=false):=by have c0:=h.blk.cell 0;have c1:=h.blk.cell 1;have c2:=h.blk.cell 2;have c3:=h.blk.cell 3;have c4:=h.blk.cell 4;simp[sG]at c0 c1 c2 c3 c4;exact⟨c0,c1,c2,c3,c4,h.blk.frozen⟩
theorem aR.tok(h:aR E w s)(i:Nat)(D:i<E.c.toks.length):∃b off,E.A=some ⟨b,off,none⟩/\b<E.R/\w.cell? ⟨b,off+i*3,none⟩=some (.int .i64 (ar E.c i).kind) /\
  w.cell? ⟨b,off+i*3+1,none⟩=some (.string (ar E.c i).text)/\w.cell? ⟨b,off+i*3+2,none⟩=some (.int .i64 (ar E.c i).pos):=by
 obtain⟨b,off,e,hb,hc⟩:=h.toks.2 (by omega);(have I:ar E.c i=E.c.toks[i]:=by unfold ar;rw[gQ D]);rw[I];refine⟨b,off,e,hb,hc (i*3) _ ?_,hc (i*3+1) _ ?_,hc (i*3+2) _ ?_⟩
 ·have:=mv fZ E.c.toks i 0 D (by omega);rw[jP]at this;rw[this];rfl
 ·rw[mv fZ E.c.toks i 1 D (by omega)];rfl
 ·rw[mv fZ E.c.toks i 2 D (by omega)];rfl
theorem ov(c:Cx)(i:Nat)(h:c.toks.length<=i):ar c i=⟨0,⟨#[]⟩,c.fin⟩:=by unfold ar;rw[qB h]
end
def it(t:cY):Value:=.agg #[.int .i64 t.kind,.string t.text,.int .i64 t.pos]
theorem bC{B:Nat}{a w:World}(h:Below B a w)(n:Nat):Below B a (w.drewN n):=h.trans ⟨rfl,rfl,rfl,d5 _,fun _ _=>rfl⟩
theorem bel{p:Prop}(h:p:=by repeat'(first|with_reducible exact gG _ _|with_reducible refine Below.alloc ?_ ?_ _|with_reducible refine Below.setCell ?_ ?_ _|with_reducible refine Below.drew ?_ |with_reducible refine bC ?_ _|(simp<;>omega)|omega)):p:=h
theorem mP{p:Prop}(h:p:=by repeat'(first|with_reducible assumption|with_reducible exact gG _ _|with_reducible refine Below.alloc ?_ ?_ _|with_reducible refine Below.setCell ?_ ?_ _|with_reducible refine Below.drew ?_ |with_reducible refine bC ?_ _|(simp<;>omega)|omega)):p:=h
theorem bL(E:co)(s:St)(w:World)(h:aR E w s):Calls Tryz.prog 62 #[E.R] w fun e w'=>e=.returned (it (ar E.c s.at_))/\Below w w w':=by
 obtain⟨c0,c1,c2,_,_,_⟩:=h.cells;have M:=h.lt;have ga:=qe M;have J:=h.most;by_cases D:s.at_=E.c.toks.length
 ·have N:=ov E.c s.at_ (by omega);rw[N];rw[D]at c1;clear N D h;(go_enter Tryz.func62,Tryz.ntmps62);(go_wp2_with fail);go_quiet (fail);(go_wp2_with fail);refine jL (v:=it ⟨0,⟨#[]⟩,E.c.fin⟩) (by simp[results,it,Tryz.results62,go_sem]) rfl ⟨rfl,?_⟩;exact bel
 ·(have I:s.at_<E.c.toks.length:=by have:=h.le;omega);obtain⟨b,off,eA,hb,t0,t1,t2⟩:=h.tok s.at_ I;rw[eA]at c0;(have g1:((s.at_:Int)==(E.c.toks.length:Int))=false:=by simp;omega);(have g2:(0:Int)<=(s.at_:Int):=by omega);(have g3:(s.at_:Int)<(E.c.toks.length:Int):=by omega);(have U:b<w.heap.size:=by omega);(have O:b≠w.heap.size:=by omega);clear D h eA;(go_enter Tryz.func62,Tryz.ntmps62);(go_wp2_with fail);go_quiet (fail);(go_wp2_with fail);go_region;(go_wp2_with fail);refine jL (v:=it (ar E.c s.at_)) (by simp[results,it,Tryz.results62,go_sem]) rfl ⟨rfl,?_⟩;exact bel
end
section
open Go.Proofs
section
variable {P:Program} {md:Region.Mode} {ops:Array Oper} {Q:Exit->Act->World->Prop} {S:World->Prop}
theorem dL(i:Nat){oi:Oper}{v:Value}{fuel:Nat}{listed:Array Bool}{a:Act}{w:World}(M:S w)(h:wpAnyH P md ops Q S fuel (listed.setIfInBounds i true) (a.put oi.dst v) w)
  (J:ops[i]? = some oi:=by rfl)(hb:(Region.noSelect ops&&(Region.free md ops listed i&&(Region.ready md ops listed).contains i))=true:=by kernel_rfl)
  (N:∀c a w,Q (.panic c) (a.put oi.dst v) w->Q (.panic c) a w:=by exact fun _ _ _ h=>h)(I:Region.wanted oi (yielded ops a.tmps)=true:=by rfl)
  (D:∀w,S w->(execOp a.eval oi).run P w=.ok (.value v) w:=by intro w hSw;(try dsimp only[SS]at hSw);go_simp;try(with_reducible rfl)):wpAnyH P md ops Q S (fuel+1) listed a w:=by rw[gB,gB]at hb;exact wpAnyH_take J hb.1 hb.2.1 hb.2.2 N (Or.inl ⟨I,D⟩) M h
theorem tM(i:Nat){fuel:Nat}{listed:Array Bool}{a:Act}{w:World}{o:Oper}
 (h:∀K':Act->World->Prop,Shut (∀a w,S w->(S w->wpAnyH P md ops Q S fuel (listed.setIfInBounds i true) a w)->K' a w)->if Region.wanted o (yielded ops a.tmps)=true then Oper.wp P o a w K' Q else K' (a.put o.dst undef) w)
 (D:Region.ready md ops listed=[i]:=by kernel_rfl)(I:ops[i]? = some o:=by rfl):wpAnyH P md ops Q S (fuel+1) listed a w:=wpAnyH_ready D (by simp) (AllReadyH.cons I h AllReadyH.nil)
end
end
section
open Go.RowKit Go.Lib Go.Proofs
attribute [local go_sem ↓] Go.wp_at_zero Go.wp_at_succ
theorem toList_inj{a b:ByteArray}:a.toList=b.toList↔a=b:=by
 constructor
 ·intro h;rw[qJ,qJ]at h;cases a;cases b;congr;exact Array.ext' h
 ·rintro rfl;rfl
theorem dF(a b:ByteArray):(a.toList==b.toList)=decide (a=b):=by rw[qb];simp only[kK,gC];exact toList_inj
theorem aK(f:ByteArray):f.toList.isEmpty=decide (f=⟨#[]⟩):=by have h:=dF f ⟨#[]⟩;rw[<-h];(have e:(⟨#[]⟩:BA).toList=[]:=by rw[qJ]);rw[e];cases f.toList<;>rfl
section
variable (a b c d:Value) (w:World)
theorem aS:(Instr.field 43 (.agg #[a,b,c]) 0).run Tryz.prog w=.ok a w:=by kernel_rfl
theorem aT:(Instr.field 43 (.agg #[a,b,c]) 1).run Tryz.prog w=.ok b w:=by kernel_rfl
theorem aU:(Instr.field 43 (.agg #[a,b,c]) 2).run Tryz.prog w=.ok c w:=by kernel_rfl
theorem bu:(Instr.field 24 (.agg #[a,b,c,d]) 0).run Tryz.prog w=.ok a w:=by kernel_rfl
theorem bv:(Instr.field 24 (.agg #[a,b,c,d]) 1).run Tryz.prog w=.ok b w:=by kernel_rfl
theorem bw:(Instr.field 24 (.agg #[a,b,c,d]) 2).run Tryz.prog w=.ok c w:=by kernel_rfl
theorem bz:(Instr.field 24 (.agg #[a,b,c,d]) 3).run Tryz.prog w=.ok d w:=by kernel_rfl
end
attribute [local go_sem] aS aT aU bu bv bw bz
def al(p:Int):Ending:=.panicked [{ v:=.iface 73 (.agg #[.int .i64 p,.int .i64 5]),recovered:=false }]
theorem eE(E:co)(s:St)(w:World)(h:aR E w s):Calls Tryz.prog 60 #[E.R] w fun e w'=>e=al (av E.c s)/\Below w w w':=by have D:=hid h;clear h;(go_enter Tryz.func60,Tryz.ntmps60);(go_wp2_with fail);refine(bL E s w D.out).mono ?_;rintro e w'⟨rfl,hb⟩;unfold it;have I:=hid hb;clear hb;(go_wp2_with fail);exact⟨rfl,rfl,I.out⟩
theorem bW(E:co)(s:St)(x:ByteArray)(w:World)(h:aR E w s):Calls Tryz.prog 42 #[E.R,.string x] w fun e w'=>e=.returned (.bool (aP E.c s x))/\Below w w w':=by have I:=hid h;(have hT:aP E.c s x=(((ar E.c s.at_).kind==2||(ar E.c s.at_).kind==6)&&((ar E.c s.at_).text.toList==x.toList)):=by unfold aP OM;rw[dF]);rw[hT];have D:=hid (bL E s w h);clear hT h I;generalize ar E.c s.at_=t at *;obtain⟨tk,tt,tp⟩:=t;unfold it at D;simp only at *;cases O:(tk==2)<;>cases N:(tk==6)<;>cases M:(tt.toList==x.toList);all_goals(go_enter Tryz.func42,Tryz.ntmps42);(go_wp2_with fail);refine D.out.mono ?_;rintro e w'⟨rfl,hb⟩;have J:=hid hb;clear hb;(go_wp2_with fail);go_ret;have hb:=J.out;exact⟨rfl,(((hb.alloc hb.size _)))⟩
structure cU(E:co)(s:St)(w w':World):Prop where
 rd:aR E w' s
 bel:Below w w w'
theorem cU.refl{E:co}{s:St}{w:World}(h:aR E w s):cU E s w w:=⟨h,gG _ _⟩
theorem cU.step{E:co}{s:St}{w w1 w2:World}(h:cU E s w w1)(hb:Below w1 w1 w2):cU E s w w2:=⟨h.rd.below hb,a8 h.bel hb⟩
theorem cU.alloc{E:co}{s:St}{w w1:World}(h:cU E s w w1)(o:Obj):cU E s w (w1.alloc o):=h.step ((gG _ _).alloc (d5 _) o)
theorem cU.drew{E:co}{s:St}{w w1:World}(h:cU E s w w1):cU E s w w1.drew:=h.step (gG _ _).drew
structure aD(E:co)(s:St)(w w':World):Prop where
 rd:aR E w' s
 gr:w.grownBy w' (some E.R)
theorem cU.moved{E:co}{s:St}{w w':World}(h:cU E s w w'):aD E s w w':=⟨h.rd,ak _ h.bel⟩
theorem aD.refl{E:co}{s:St}{w:World}(h:aR E w s):aD E s w w:=⟨h,va w _⟩
theorem aD.setAt{E:co}{s:St}{w w':World}(h:aD E s w w')(n:Nat)(D:n<=E.c.toks.length):aD E { s with at_:=n } w (w'.setCell ⟨E.R,1,none⟩ (.int .i64 (n:Int))):=
 ⟨h.rd.setAt n D,h.gr.trans (lk _ _ _ _)⟩
theorem aD.setHead{E:co}{s:St}{w w':World}(h:aD E s w w')(b:Bool):aD E { s with head:=b } w (w'.setCell ⟨E.R,3,none⟩ (.bool b)):=
 ⟨h.rd.setHead b,h.gr.trans (lk _ _ _ _)⟩
theorem aD.setPart{E:co}{s:St}{w w':World}(h:aD E s w w')(n:Int):aD E { s with part:=n } w (w'.setCell ⟨E.R,4,none⟩ (.int .i64 n)):=
 ⟨h.rd.setPart n,h.gr.trans (lk _ _ _ _)⟩
theorem aD.trans{E:co}{s s':St}{w w1 w2:World}(h:aD E s w w1)(h':aD E s' w1 w2):aD E s' w w2:=⟨h'.rd,h.gr.trans h'.gr⟩
theorem aD.step{E:co}{s:St}{w w1 w2:World}(h:aD E s w w1)(hb:Below w1 w1 w2):aD E s w w2:=h.trans ⟨h.rd.below hb,ak _ hb⟩
theorem aD.alloc{E:co}{s:St}{w w1:World}(h:aD E s w w1)(o:Obj):aD E s w (w1.alloc o):=h.step ((gG _ _).alloc (d5 _) o)
theorem aD.drew{E:co}{s:St}{w w1:World}(h:aD E s w w1):aD E s w w1.drew:=h.step (gG _ _).drew
theorem aD.drewN{E:co}{s:St}{w w1:World}(h:aD E s w w1)(n:Nat):aD E s w (w1.drewN n):=h.step (bC (gG _ _) n)
theorem cU.drewN{E:co}{s:St}{w w1:World}(h:cU E s w w1)(n:Nat):cU E s w (w1.drewN n):=h.step (bC (gG _ _) n)
theorem aD.own{E:co}{s:St}{w w1:World}(h:aD E s w w1){p:Addr}(D:w.heap.size<=p.block)(I:E.R<p.block)(u:Value):aD E s w (w1.setCell p u):=
 ⟨h.rd.far I u,by obtain⟨b,o,z⟩:=p;exact⟨h.gr.os,h.gr.tape,h.gr.output,by simpa using h.gr.size,fun k hk hne=>(jQ w1 ⟨b,o,z⟩ u k (by simp at D |-;omega)).trans (h.gr.block k hk hne)⟩⟩
theorem pE{E:co}{s:St}{w:World}(_h:aR E w s){x:ByteArray}(D:aP E.c s x=true):s.at_<E.c.toks.length:=by
 rcases jZ s.at_ E.c.toks.length with h|h
 ·exact h
 ·unfold aP at D;rw[ov E.c s.at_ h]at D;simp[OM]at D
theorem bi(E:co)(s:St)(x:ByteArray)(w:World)(h:aR E w s)(D:aP E.c s x=true):Calls Tryz.prog 84 #[E.R,.string x] w fun e w'=>e=.returned (.bool true)/\aD E (adv s) w w':=by have N:=pE h D;have I:=h.most;have O:=hid D;have U:=hid (bW E s x w h);clear D;(go_enter Tryz.func84,Tryz.ntmps84);(go_wp2_with fail);refine U.out.mono ?_;rw[O.out];rintro e w'⟨rfl,hb⟩;have M:=(cU.refl h).step hb;obtain⟨c0,c1,c2,c3,c4,J⟩:=M.rd.cells;have HF:=hid J;have f1:=J 1;clear hb J;(go_wp2_with fail);go_ret;exact⟨rfl,M.moved.setAt (s.at_+1) (by omega)⟩
theorem bA(E:co)(s:St)(x:ByteArray)(w:World)(h:aR E w s)(D:aP E.c s x=false):Calls Tryz.prog 84 #[E.R,.string x] w fun e w'=>e=.returned (.bool false)/\cU E s w w':=by have J:=hid D;have M:=hid (bW E s x w h);clear D;(go_enter Tryz.func84,Tryz.ntmps84);(go_wp2_with fail);refine M.out.mono ?_;rw[J.out];rintro e w'⟨rfl,hb⟩;have I:=(cU.refl h).step hb;clear hb;(go_wp2_with fail);go_ret;exact⟨rfl,I⟩
theorem dA(E:co)(s:St)(x:ByteArray)(w:World)(h:aR E w s)(D:aP E.c s x=true):Calls Tryz.prog 63 #[E.R,.string x] w fun e w'=>e=.returned (.tuple #[])/\aD E (adv s) w w':=by have J:=hid (bi E s x w h D);clear D h;(go_enter Tryz.func63,Tryz.ntmps63);(go_wp2_with fail);refine J.out.mono ?_;rintro e w'⟨rfl,I⟩;(go_wp2_with fail);go_end0;exact⟨rfl,I⟩
theorem eJ(E:co)(s:St)(x:ByteArray)(w:World)(h:aR E w s)(D:aP E.c s x=false):Calls Tryz.prog 63 #[E.R,.string x] w fun e w'=>e=al (av E.c s)/\Below w w w':=by have J:=hid (bA E s x w h D);clear D h;(go_enter Tryz.func63,Tryz.ntmps63);(go_wp2_with fail);refine J.out.mono ?_;rintro e w'⟨rfl,I⟩;(go_wp2_with fail);refine(eE E s w' I.rd).mono ?_;rintro e w2⟨rfl,hb⟩;unfold al;exact⟨rfl,rfl,a8 I.bel hb⟩
theorem CO(E:co)(s:St)(w:World)(h:aR E w s):Calls Tryz.prog 85 #[E.R] w fun e w'=>e=.returned (.bool (dV E.c s))/\cU E s w w':=by have D:=cU.refl h;have hs:dV E.c s=(aP E.c s ⟨#[59]⟩||aP E.c s ⟨#[10]⟩):=rfl;have J:=hid (fun w'(h:aR E w' s)=>bW E s ⟨#[59]⟩ w' h);have I:=hid (fun w'(h:aR E w' s)=>bW E s ⟨#[10]⟩ w' h);rw[hs];clear hs;generalize aP E.c s ⟨#[59]⟩=a at *;generalize aP E.c s ⟨#[10]⟩=b at *;cases a<;>cases b;all_goals(go_enter Tryz.func85,Tryz.ntmps85);(go_wp2_with fail);refine(J.out _ h).mono ?_;rintro e w'⟨rfl,hb⟩;replace D:=D.step hb;clear hb;go_wp2_with (go_at_call 42;refine(I.out _ D.rd).mono ?_;rintro e w'⟨rfl,hb⟩;replace D:=D.step hb;clear hb);go_ret;exact⟨rfl,D⟩
theorem wH(E:co)(s:St)(w:World)(h:aR E w s):Calls Tryz.prog 238 #[E.R] w fun e w'=>e=.returned (.bool (ll E.c s))/\cU E s w w':=by have D:=cU.refl h;have hs:ll E.c s=(aP E.c s ⟨#[44]⟩||aP E.c s ⟨#[93]⟩):=rfl;have J:=hid (fun w'(h:aR E w' s)=>bW E s ⟨#[44]⟩ w' h);have I:=hid (fun w'(h:aR E w' s)=>bW E s ⟨#[93]⟩ w' h);rw[hs];clear hs;generalize aP E.c s ⟨#[44]⟩=a at *;generalize aP E.c s ⟨#[93]⟩=b at *;cases a<;>cases b;all_goals(go_enter Tryz.func238,Tryz.ntmps238);(go_wp2_with fail);refine(J.out _ h).mono ?_;rintro e w'⟨rfl,hb⟩;replace D:=D.step hb;clear hb;go_wp2_with (go_at_call 42;refine(I.out _ D.rd).mono ?_;rintro e w'⟨rfl,hb⟩;replace D:=D.step hb;clear hb);go_ret;exact⟨rfl,D⟩
theorem lD(E:co)(s:St)(w:World)(h:aR E w s):Calls Tryz.prog 66 #[E.R] w fun e w'=>e=.returned (.bool (dV E.c s))/\aD E (eP E.c s) w w':=by
 have O:=hid (CO E s w h);have hs:eP E.c s=if dV E.c s=true then adv s else s:=rfl;have M:dV E.c s=true->s.at_<E.c.toks.length:=fun hb=>by
  unfold dV at hb;rcases Bool.or_eq_true_iff.1 hb with J|J
  ·exact pE h J
  ·exact pE h J
 have I:=h.most;rw[hs];clear hs;generalize dV E.c s=a at *;cases a
 ·(go_enter Tryz.func66,Tryz.ntmps66);(go_wp2_with fail);refine O.out.mono ?_;rintro e w'⟨rfl,D⟩;(go_wp2_with fail);go_ret;exact⟨rfl,D.moved⟩
 ·have U:=M rfl;clear M;(go_enter Tryz.func66,Tryz.ntmps66);(go_wp2_with fail);refine O.out.mono ?_;rintro e w'⟨rfl,D⟩;obtain⟨c0,c1,c2,c3,c4,N⟩:=D.rd.cells;have f1:=N 1;clear N;(go_wp2_with fail);go_ret;exact⟨rfl,D.moved.setAt (s.at_+1) (by omega)⟩
theorem Lk(E:co)(s:St)(D:(ar E.c s.at_).kind=1):s.at_<E.c.toks.length:=by
 rcases jZ s.at_ E.c.toks.length with h|h
 ·exact h
 ·rw[ov E.c s.at_ h]at D;simp at D
theorem lE(E:co)(s:St)(w:World)(h:aR E w s)(N:(ar E.c s.at_).kind=1):Calls Tryz.prog 65 #[E.R] w fun e w'=>e=.returned (.string (ar E.c s.at_).text)/\aD E (adv s) w w':=by have ga:=Lk E s N;have J:=h.most;have U:=hid (bL E s w h);generalize ar E.c s.at_=t at *;obtain⟨tk,tt,tp⟩:=t;unfold it at U;simp only at *;subst N;(go_enter Tryz.func65,Tryz.ntmps65);(go_wp2_with fail);refine U.out.mono ?_;rintro e w'⟨rfl,hb⟩;have I:=(cU.refl h).step hb;obtain⟨c0,c1,c2,c3,c4,O⟩:=I.rd.cells;have f1:=O 1;have D:=I.rd.lt;have M:=qe D;clear O;(go_wp2_with fail);go_ret;exact⟨rfl,(I.moved.setAt (s.at_+1) (by omega)).alloc _⟩
theorem mQ(E:co)(s:St)(w:World)(h:aR E w s)(M:¬ (ar E.c s.at_).kind=1):Calls Tryz.prog 65 #[E.R] w fun e w'=>e=al (av E.c s)/\Below w w w':=by have I:=hid (bL E s w h);generalize ar E.c s.at_=t at *;obtain⟨tk,tt,tp⟩:=t;unfold it at I;simp only at *;(go_enter Tryz.func65,Tryz.ntmps65);(go_wp2_with fail);refine I.out.mono ?_;rintro e w'⟨rfl,hb⟩;have D:=((cU.refl h).step hb).alloc (.cells #[.int .i64 tk,.string tt,.int .i64 tp] 43);(have J:(tk != 1)=true:=by simpa using M);(go_wp2_with fail);refine(eE E s _ D.rd).mono ?_;rintro e w2⟨rfl,hb⟩;unfold al;exact⟨rfl,rfl,a8 D.bel hb⟩
theorem GP(E:co)(s:St)(w:World)(h:aR E w s):Calls Tryz.prog 180 #[E.R] w fun e w'=>e=.returned (.bool (pD E.c s))/\cU E s w w':=by
 have D:=cU.refl h;have hs:pD E.c s=((ar E.c s.at_).kind==1||(aP E.c s ⟨#[91]⟩||(aP E.c s ⟨#[40]⟩||aP E.c s ⟨#[102,117,110,99]⟩))):=rfl;have I:=hid (bL E s w h);have N:=hid (fun w'(h:aR E w' s)=>bW E s ⟨#[91]⟩ w' h);have M:=hid (fun w'(h:aR E w' s)=>bW E s ⟨#[40]⟩ w' h);have J:=hid (fun w'(h:aR E w' s)=>bW E s ⟨#[102,117,110,99]⟩ w' h);rw[hs];clear hs;generalize aP E.c s ⟨#[91]⟩=a at *;generalize aP E.c s ⟨#[40]⟩=b at *;generalize aP E.c s ⟨#[102,117,110,99]⟩=d at *;generalize ar E.c s.at_=t at *;obtain⟨tk,tt,tp⟩:=t;unfold it at I;simp only at *;cases O:(tk==1)<;>cases a<;>cases b<;>cases d;all_goals
  (go_enter Tryz.func180,Tryz.ntmps180);(go_wp2_with fail);refine I.out.mono ?_;rintro e w'⟨rfl,hb⟩;replace D:=D.step hb;clear hb;go_wp2_with (first
   |(go_at_call 42;with_reducible refine(N.out _ D.rd).mono ?_;rintro e w'⟨rfl,hb⟩;replace D:=D.step hb;clear hb)
   |(go_at_call 42;with_reducible refine(M.out _ D.rd).mono ?_;rintro e w'⟨rfl,hb⟩;replace D:=D.step hb;clear hb)
   |(go_at_call 42;with_reducible refine(J.out _ D.rd).mono ?_;rintro e w'⟨rfl,hb⟩;replace D:=D.step hb;clear hb))
  go_ret;exact⟨rfl,D⟩
theorem aN(a k:Int)(t:ByteArray)(v:Value)(w:World)(D:∃A n c,v=.slice A n c):Calls Tryz.prog 64 #[.int .i64 a,.int .i64 k,.string t,v] w fun e w'=>e=.returned (.agg #[.int .i64 k,.string t,v,.int .i64 a])/\Below w w w':=by obtain⟨A,n,c,rfl⟩:=D;(go_enter Tryz.func64,Tryz.ntmps64);(go_wp2_with fail);refine jL (v:=.agg #[.int .i64 k,.string t,.slice A n c,.int .i64 a]) (by simp[results,Tryz.results64,go_sem]) rfl ⟨rfl,?_⟩;exact bel
def mK(E:co)(w:World)(r:bH Nd)(e:Ending)(w':World):Prop:=
 match r with
 | .ok n s=>(∃v,e=.returned v/\aq (fun b=>w.heap.size<=b) w' v n)/\aD E s w w'
 | .fail p=>e=al p/\w.grownBy w' (some E.R)
 | .out=>False
def dG(X:Nat->Prop)(w:World)(v:Value)(l:List Nd):Prop:=
 ∃A cap xs,v=.slice A l.length cap/\l.length<=cap/\fU X w 4 A l.length xs/\an X w l xs
def Ll(E:co)(w:World)(r:bH (List Nd))(e:Ending)(w':World):Prop:=
 match r with
 | .ok l s=>(∃v,e=.returned v/\dG (fun b=>w.heap.size<=b) w' v l)/\aD E s w w'
 | .fail p=>e=al p/\w.grownBy w' (some E.R)
 | .out=>False
def fP(E:co)(k:FuncId)(args:Array Value)(m:R Nd)(w0:World):Prop:=
 ∀(w:World)(s:St),w0.grownBy w (some E.R)->aR E w s->m E.c s≠.out->Calls Tryz.prog k args w (mK E w (m E.c s))
theorem fP.grown{E:co}{k:FuncId}{args:Array Value}{m:R Nd}{w0 w1:World}(h:fP E k args m w0)(D:w0.grownBy w1 (some E.R)):fP E k args m w1:=
 fun w s hw hr hm=>h w s (D.trans hw) hr hm
theorem pF:(Tryz.prog.info? 24).map (fun i=>(i.zero,i.size,i.bytes))=some (some (.agg #[.int .i64 0,.string ⟨#[]⟩,.slice none 0 0,.int .i64 0]),4,56):=by kernel_rfl
structure ow(B:Nat)(w:World)(v:Value)(l:List Nd):Prop where
 out:∃xs,w.ownsRow B 24 4 v l.length xs/\an (fun b=>B<=b/\some b≠v.ownBlock) w l xs
theorem ow.nil(B:Nat)(w:World):ow B w (.slice none 0 0) []:=⟨[],qS _ _ _ _,an.nil⟩
theorem ow.keep{B:Nat}{w w':World}{v:Value}{l:List Nd}(h:ow B w v l)(J:∀b,B<=b->b<w.heap.size->w'.heap[b]? = w.heap[b]?):ow B w' v l:=by
 obtain⟨xs,N,O⟩:=h.out;refine⟨xs,⟨N.1,?_⟩,O.keep fun b hb D=>J b hb.1 D⟩;rcases N.2 with U|⟨g,cap,cur,e,M,I,r⟩
 ·exact .inl U
 ·refine .inr ⟨g,cap,cur,e,M,?_,r⟩;have D:g<w.heap.size:=by
   rcases jZ g w.heap.size with D|hge
   ·exact D
   ·rw[kI hge]at I;cases I
  exact(J g M D).trans I
theorem ow.grown{B R:Nat}{w w':World}{v:Value}{l:List Nd}(h:ow B w v l)(D:w.grownBy w' (some R))(I:R<B):ow B w' v l:=
 h.keep fun b hb hlt=>D.block b hlt (fun e=>by injection e;omega)
theorem ow.values{B:Nat}{w:World}{v:Value}{l:List Nd}(h:ow B w v l):dG (fun b=>B<=b) w v l:=by
 obtain⟨xs,D,J⟩:=h.out;rcases D.2 with⟨rfl,h0⟩|⟨g,cap,cur,rfl,hg,U,I,_,N,M⟩
 ·exact⟨none,0,xs,by rw[h0],by omega,⟨D.1,fun h=>by omega⟩,J.mono fun b hb _=>hb.1⟩
 ·refine⟨_,cap,xs,rfl,I,⟨D.1,fun _=>⟨g,0,rfl,hg,fun j u hu=>?_⟩⟩,J.mono fun b hb _=>hb.1⟩;(have O:j<l.length*4:=by have:=(List.getElem?_eq_some_iff.1 hu).1;rw[D.1]at this;exact this);rw[kR];unfold World.cell?;rw[U];simp only[qo,gT,jY];rw[<-M,qV O]at hu;rw[<-hu];simp
theorem ow.push{B S:Nat}{w1 w2:World}{u v':Value}{l:List Nd}{n:Nd}{o:Obj}{cs:List Value}{xs:List Value}
  (O:an (fun b=>B<=b/\some b≠u.ownBlock) w1 l xs)
  (h:bK (fun b=>S<=b) w1 n cs)(hB:B<=S)(N:∀g,u.ownBlock=some g->g<S)
  (I:w2.ownsRow B 24 4 v' (l.length+1) (xs++cs))(U:(w1.alloc o).grownBy w2 u.ownBlock)(J:v'.ownBlock=u.ownBlock\/v'.ownBlock=some (w1.alloc o).heap.size):ow B w2 v' (l++[n]):=by
 refine⟨xs++cs,by rw[gJ];exact I,?_⟩;have h1:an (fun b=>B<=b/\some b≠u.ownBlock/\b<w1.heap.size) w1 (l++[n]) (xs++cs):=
  (O.mono fun b hb D=>⟨hb.1,hb.2,D⟩).app (an.one (h.mono fun b hb D=>⟨jB hB hb,fun e=>by have:=N b e.symm;omega,D⟩))
 have h2:=h1.keep (w':=w2) fun b hb D=>(U.block b (by rw[jO];omega) hb.2.1).trans (gW w1 o b D);refine h2.mono fun b hb _=>⟨hb.1,?_⟩;rcases J with e|e
 ·rw[e];exact hb.2.1
 ·rw[e,jO];intro M;injection M with M;omega
theorem sH(n:Nd)(A:Option Addr)(cap:Nat):∀u∈[Value.int .i64 n.kind,.string n.text,.slice A n.kids.length cap,.int .i64 n.pos],u.oneCell'=true:=by intro u D;simp only[vd,qM,or_false]at D;rcases D with rfl|rfl|rfl|rfl<;>rfl
theorem ow.lt{B:Nat}{w:World}{v:Value}{l:List Nd}(h:ow B w v l):∀g,v.ownBlock=some g->B<=g/\g<w.heap.size:=by obtain⟨xs,D,_⟩:=h.out;exact fun g hg=>D.lt g hg
structure Lm(E:co)(s:St)(B:Nat)(w w1 w2:World)(v':Value)(l:List Nd):Prop where
 own:ow B w2 v' l
 mov:aD E s w w2
 old:∀b,b<w1.heap.size->(B<=b->False)->w2.heap[b]? = w1.heap[b]?
 le:w1.heap.size<=w2.heap.size
theorem OO{o:Oper}{a:Act}{K:Act->World->Prop}{Q:Exit->Act->World->Prop}(s x:Operand)
  (ho:o.op=.call { callee:=.builtin .append,args:=#[s,x],argTypes:=#[22,22] })
  (E:co)(st:St)(B S:Nat)(w w1:World)(u:Value)(l:List Nd)(n:Nd)(A:Option Addr)(cap:Nat)(hs:a.eval s=u)(hx:a.eval x=.slice (some ⟨w1,0,none⟩) 1 1)
  (hO:ow B w1 u l)(D:aD E st w w1)(ge:w.heap.size<=B)(hR:E.R<B)(hB:B<=S)(hS:S<=w1.heap.size)(hu:∀g,u.ownBlock=some g->g<S)(hl:l.length<=1000000)
  (hV:bK (fun b=>S<=b) w1 n [.int .i64 n.kind,.string n.text,.slice A n.kids.length cap,.int .i64 n.pos])
  (h:∀g c w2,Lm E st B w w1 w2 (.slice (some ⟨g,0,none⟩) (l.length+1) c) (l++[n])->K (a.put o.dst (.slice (some ⟨g,0,none⟩) (l.length+1) c)) w2):
  o.wp Tryz.prog a (w1.alloc (.cells (nv n A cap) 24)) K Q:=by
 obtain⟨i0,hi,U,O,N⟩:=qH pF;obtain⟨xs,J,gb⟩:=hO.out;refine vj _ s x 22 ho B 24 i0 _ 4 56 Tryz.underlying22 hi U O N rfl (by omega) u l.length xs hs (J.alloc _) ⟨w1,0,none⟩ 1 1 [.int .i64 n.kind,.string n.text,.slice A n.kids.length cap,.int .i64 n.pos] hx rfl
  (qx (cs:=(nv n A cap)) (qq _ _)) (sH n A cap) (by omega) (by unfold maxLen;omega) (by omega) (by rw[jO];omega) _ rfl ?_
 intro g c w2 hown1 I gd _;have ga:∀g,u.ownBlock=some g->B<=g:=fun g I=>(hO.lt g I).1;have hold:∀b,b<w1.heap.size->(B<=b->False)->w2.heap[b]? = w1.heap[b]? :=fun b hb hBb=>(I.block b (by rw[jO];omega) (fun e=>hBb (ga b e.symm))).trans (gW w1 _ b hb);have M:w1.heap.size<=w2.heap.size:=jB (by rw[jO];omega) I.size;refine h g c w2 ⟨ow.push gb hV hB hu hown1 I ?_,⟨D.rd.keep fun b hb=>?_,?_⟩,hold,M⟩
 ·rcases gd with e|e
  ·exact .inl (by rw[e];rfl)
  ·exact .inr (by rw[e];rfl)
 ·exact hold b (Nat.lt_of_le_of_lt hb D.rd.lt) (fun h2=>by omega)
 ·refine⟨I.os.trans D.gr.os,I.tape.trans D.gr.tape,I.output.trans D.gr.output,jB D.gr.size M,fun k hk hne=>?_⟩;exact(hold k (kH hk D.gr.size) (fun h2=>by omega)).trans (D.gr.block k hk hne)
theorem CP{ops:Array Oper}{rest:List Oper}{o:Oper}{a:Act}{Q:Exit->Act->World->Prop}(I:o.guard=none)(s x:Operand)
  (N:o.op=.call { callee:=.builtin .append,args:=#[s,x],argTypes:=#[22,22] })
  (E:co)(st:St)(B S:Nat)(w w1:World)(u:Value)(l:List Nd)(n:Nd)(A:Option Addr)(cap:Nat)(hs:a.eval s=u)(J:a.eval x=.slice (some ⟨w1,0,none⟩) 1 1)
  (hO:ow B w1 u l)(O:aD E st w w1)(D:w.heap.size<=B)(hR:E.R<B)(hB:B<=S)(hS:S<=w1.heap.size)(M:∀g,u.ownBlock=some g->g<S)(U:l.length<=1000000)
  (hV:bK (fun b=>S<=b) w1 n [.int .i64 n.kind,.string n.text,.slice A n.kids.length cap,.int .i64 n.pos])
  (h:∀g c w2,Lm E st B w w1 w2 (.slice (some ⟨g,0,none⟩) (l.length+1) c) (l++[n])->wpList Tryz.prog ops Q rest (a.put o.dst (.slice (some ⟨g,0,none⟩) (l.length+1) c)) w2):
  wpList Tryz.prog ops Q (o::rest) a (w1.alloc (.cells (nv n A cap) 24)):=
 vn I fun _ hK=>OO s x N E st B S w w1 u l n A cap hs J hO O D hR hB hS M U hV fun g c w2 hp=>hK _ _ (h g c w2 hp)
theorem lF(E:co)(k:FuncId)(first cap:Array Value)(part:R Nd)(en:ByteArray)(g:Nat)(s:St)(w:World)(h:aR E w s)
  (hk:∀a w,(callFunc k a).run Tryz.prog w=.ok (.enter k a) w)(hp:fP E k (first++cap) part w)(gl:aX part en g [] E.c s≠.out)(gv:g<=1000000):
  Calls Tryz.prog 127 #[E.R,.string en,.func (.func k) first cap] w (Ll E w (aX part en g [] E.c s)):=by
 generalize hres:aX part en g [] E.c s=res at *;have gb:=hid hres;have HP:=hid hp;have gq:=hid gl;obtain⟨i0,hi,g4,g2,g0⟩:=qH pF;clear hres hp gl;(go_enter Tryz.func127,Tryz.ntmps127);(go_wp2_with fail);go_loopg [7] g (fun g u7 wr=>∃(acc:List Nd)(s':St),ow w.heap.size wr u7 acc/\acc.length+g<=1000000/\aX part en g acc E.c s'=res/\aD E s' w wr)
 case atStart=>exact⟨[],s,ow.nil _ _,by simpa using gv,gb.out,aD.refl h⟩
 case round=>
  obtain⟨acc,U,ga,gz,hr,hm⟩:=hrel;have HR:=hid hr;have HO:=hid ga;clear hr ga gb;cases gk with
  |zero=>exact absurd HR.out.symm (by rw[aX];exact gq.out)
  |succ g1=>
   cases hA:aP E.c U en with
   |true=>have HF:=hid (show res=.ok acc (adv U)by rw[<-HR.out,aX];simp only[hA,kJ]);(go_wp2_with fail);refine(bi E U en _ hm.rd hA).mono ?_;rintro e w1⟨rfl,D⟩;clear hA;(go_wp2_with fail);go_ret;rw[HF.out];exact⟨⟨_,rfl,(HO.out.grown D.gr (h.lt)).values⟩,hm.trans D⟩
   |false=>
    have HE:=hid (show(part E.c U).bind (fun n s2=>if aP E.c s2 en then .ok (acc++[n]) (adv s2)else(need ⟨#[44]⟩ E.c s2).bind fun _ s3=>aX part en g1 (acc++[n]) E.c s3)=res by rw[<-HR.out,aX];simp only[hA,gT,jY]);clear HR;(go_wp2_with fail);refine(bA E U en _ hm.rd hA).mono ?_;rintro e w1⟨rfl,ge⟩;clear hA;have D:=hm.trans ge.moved;have gi:=hid (HO.out.grown ge.moved.gr h.lt);clear HO hm ge;(go_wp2_with fail);cases hP:part E.c U with
    |out=>exact absurd HE.out.symm (by rw[hP];exact gq.out)
    |fail p=>have HF:Hid (res=.fail p):=hid (by rw[<-HE.out,hP];rfl);refine(HP.out w1 U D.gr D.rd (by rw[hP];exact nofun)).mono ?_;rw[hP];rintro e w2⟨rfl,gu⟩;unfold al;refine⟨rfl,?_⟩;rw[HF.out];exact⟨rfl,D.gr.trans gu⟩
    |ok n s2=>
     have O:=hid (show(if aP E.c s2 en then .ok (acc++[n]) (adv s2)else(need ⟨#[44]⟩ E.c s2).bind fun _ s3=>aX part en g1 (acc++[n]) E.c s3)=res by rw[<-HE.out,hP];rfl);refine(HP.out w1 U D.gr D.rd (by rw[hP];exact nofun)).mono ?_;rw[hP];rintro e w2⟨⟨v,rfl,hv⟩,N⟩;obtain⟨A,cp,rfl,hC⟩:=hv.toC;have gt:=D.gr.size;have gn:=N.gr.size;have I:=h.lt;have HU:Hid (∀g,u7.ownBlock=some g->g<w1.heap.size):=hid (fun g hg=>(gi.out.lt g hg).2);have gp:=hid (gi.out.grown N.gr I);have HC:=hid hC;have gs:=hid (D.trans N);(have gg:acc.length<=1000000:=by omega);clear hP HE HP hv hC D N gi;go_wp2_with (at_builtin;refine CP rfl (.tmp 12) (.tmp 15) rfl E s2 w.heap.size w1.heap.size w w2 u7 acc n A cp rfl rfl gp.out gs.out (d5 _) I gt gn HU.out gg HC.out ?_;intro g3 c3 w3 hp3);have M:=hp3.mov;have gh:=hid hp3.own;clear hp3 gp gs HC HU;cases hB:aP E.c s2 en with
     |true=>have HF:=hid (show res=.ok (acc++[n]) (adv s2)by rw[<-O.out];simp only[hB,kJ]);refine(bi E s2 en _ M.rd hB).mono ?_;rintro e w4⟨rfl,J⟩;clear hB O;(go_wp2_with fail);go_ret;rw[HF.out];exact⟨⟨_,rfl,(gh.out.grown J.gr I).values⟩,M.trans J⟩
     |false=>
      have gj:=hid (show(need ⟨#[44]⟩ E.c s2).bind (fun _ s3=>aX part en g1 (acc++[n]) E.c s3)=res by rw[<-O.out];simp only[hB,gT,jY]);refine(bA E s2 en _ M.rd hB).mono ?_;rintro e w4⟨rfl,gd⟩;have J:=M.trans gd.moved;have gx:=hid (gh.out.grown gd.moved.gr I);clear hB O gh gd M;(go_wp2_with fail);cases hD:aP E.c s2 ⟨#[44]⟩with
      |true=>
       have gy:Hid (aX part en g1 (acc++[n]) E.c (adv s2)=res):=hid (by rw[<-gj.out,need];simp only[hD,kJ,bH.bind_ok]);refine(dA E s2 ⟨#[44]⟩ _ J.rd hD).mono ?_;rintro e w5⟨rfl,gm⟩;clear hD gj;(go_wp2_with fail);go_roundg g1
       case measure=>omega
       case rel=>exact⟨acc++[n],adv s2,gx.out.grown gm.gr I,by rw[gJ];simp;omega,gy.out,J.trans gm⟩
      |false=>have HF:=hid (show res=.fail (av E.c s2)by rw[<-gj.out,need];simp only[hD,gT,jY,bH.bind_fail]);refine(eJ E s2 ⟨#[44]⟩ _ J.rd hD).mono ?_;rintro e w5⟨rfl,gw⟩;unfold al;refine⟨rfl,?_⟩;rw[HF.out];exact⟨rfl,J.gr.trans (ak _ gw)⟩
structure am(X:Nat->Prop)(w w':World):Prop where
 size:w.heap.size<=w'.heap.size
 block:∀b,X b->b<w.heap.size->w'.heap[b]? = w.heap[b]?
section
variable {X:Nat->Prop} {w w' w'':World}
theorem am.refl(X:Nat->Prop)(w:World):am X w w:=⟨d5 _,fun _ _ _=>rfl⟩
theorem am.trans(h:am X w w')(h':am X w' w''):am X w w'':=
 ⟨jB h.size h'.size,fun b hb hlt=>(h'.block b hb (kH hlt h.size)).trans (h.block b hb hlt)⟩
theorem am.alloc(h:am X w w')(o:Obj):am X w (w'.alloc o):=
 h.trans ⟨by rw[jO];omega,fun b _ hlt=>gW w' o b hlt⟩
theorem am.drew(h:am X w w'):am X w w'.drew:=h.trans ⟨d5 _,fun _ _ _=>rfl⟩
theorem am.drewN(h:am X w w')(n:Nat):am X w (w'.drewN n):=h.trans ⟨(bC (gG 0 _) n).size,fun b _ hlt=>(bC (gG w'.heap.size w') n).block b hlt⟩
theorem am.setCell(h:am X w w'){p:Addr}(D:X p.block->False)(u:Value):am X w (w'.setCell p u):=
 h.trans ⟨by simp[World.setCell],fun b hb _=>jQ w' p u b (fun e=>D (e▸hb))⟩
theorem am.of_grown{r:Option Nat}(D:w.grownBy w' r)(I:∀g,r=some g->X g->False:=by intro g e hX;injection e with e;(try dsimp only at hX);omega):am X w w':=
 ⟨D.size,fun b hb hlt=>D.block b hlt (fun e=>I b e.symm hb)⟩
theorem am.of_below{B:Nat}(D:Below B w w')(I:∀b,X b->b<w.heap.size->b<B):am X w w':=
 ⟨D.size,fun b hb hlt=>D.block b (I b hb hlt)⟩
theorem aq.kept{v:Value}{n:Nd}(h:aq X w v n)(D:am X w w'):aq X w' v n:=h.keep D.block
theorem dG.kept{v:Value}{l:List Nd}(h:dG X w v l)(D:am X w w'):dG X w' v l:=by obtain⟨A,cap,xs,e,M,J,I⟩:=h;exact⟨A,cap,xs,e,M,J.keep D.block,I.keep D.block⟩
theorem dG.mono{Y:Nat->Prop}{v:Value}{l:List Nd}(h:dG X w v l)(D:∀b,X b->b<w.heap.size->Y b):dG Y w v l:=by obtain⟨A,cap,xs,e,M,J,I⟩:=h;exact⟨A,cap,xs,e,M,J.mono D (by omega),I.mono D⟩
theorem ag{g:Nat}{t:TypeId}{a b c d:Value}(h:au w g t #[a,b,c,d]):w.cell? ⟨g,0,none⟩=some a/\w.cell? ⟨g,1,none⟩=some b/\w.cell? ⟨g,2,none⟩=some c/\w.cell? ⟨g,3,none⟩=some d /\
  w.frozen? ⟨g,0,none⟩=false/\w.frozen? ⟨g,1,none⟩=false/\w.frozen? ⟨g,2,none⟩=false/\w.frozen? ⟨g,3,none⟩=false:=by have c0:=h.cell 0;have c1:=h.cell 1;have c2:=h.cell 2;have c3:=h.cell 3;simp at c0 c1 c2 c3;exact⟨c0,c1,c2,c3,h.frozen 0,h.frozen 1,h.frozen 2,h.frozen 3⟩
end
def bD:Array Value:=#[.int .i64 0,.string ⟨#[]⟩,.slice none 0 0,.int .i64 0]
theorem eX{fn:Func}{q:Tmp}(I:fn.results = #[.cell q 24])(tmps:Array Value){w:World}{g:Nat}{a b c d:Value}(J:tmps.getD q undef=.pointer (some ⟨g,0,none⟩))(hb:au w g 24 #[a,b,c,d]):
  (results fn tmps).run Tryz.prog w=.ok (.agg #[a,b,c,d]) w:=by obtain⟨U,O,N,M,_,_,_,_⟩:=ag hb;unfold results;rw[I];(have D:tmps[q]?.getD undef=.pointer (some ⟨g,0,none⟩):=by simpa using J);simp[D,go_sem,U,O,N,M]
theorem CQ(E:co)(k:FuncId)(first cap:Array Value)(part:R Nd)(s:St)(w:World)(h:aR E w s)
  (hk:∀a w,(callFunc k a).run Tryz.prog w=.ok (.enter k a) w)(hp:fP E k (first++cap) part w)(O:ce part E.c s≠.out):
  Calls Tryz.prog 133 #[E.R,.func (.func k) first cap] w (mK E w (ce part E.c s)):=by
 generalize hres:ce part E.c s=res at *;have D:=hid hres;have HP:=hid hp;have gh:=hid O;obtain⟨c0,c1,c2,c3,c4,f0⟩:=h.cells;have f3:=f0 3;have U:=h.lt;have gi:=qe U;clear hres hp O f0;(go_enter Tryz.func133,Tryz.ntmps133);(go_wp2_with fail);have I:aD E { s with head:=false } w ((w.setCell ⟨E.R,3,none⟩ (.bool false)).alloc (.cells bD 24)):=((aD.refl h).setHead false).alloc _;(have gg:au ((w.setCell ⟨E.R,3,none⟩ (.bool false)).alloc (.cells bD 24)) w.heap.size 24 bD:=by have:=au.new (w.setCell ⟨E.R,3,none⟩ (.bool false)) 24 bD;simpa[World.setCell]using this);cases M:part E.c { s with head:=false }with
 |out=>exact absurd D.out.symm (by rw[ce,M];exact gh.out)
 |fail p=>have HF:Hid (res=.fail p):=hid (by rw[<-D.out,ce,M];rfl);refine(HP.out _ _ I.gr I.rd (by rw[M];exact nofun)).mono ?_;rw[M];rintro e w2⟨rfl,gd⟩;unfold al;refine⟨rfl,?_⟩;rw[HF.out];exact⟨rfl,I.gr.trans gd⟩
 |ok n s1=>
  have HF:=hid (show res=.ok n { s1 with head:=s.head }by rw[<-D.out,ce,M];rfl);refine(HP.out _ _ I.gr I.rd (by rw[M];exact nofun)).mono ?_;rw[M];rintro e w2⟨⟨v,rfl,hv⟩,J⟩;obtain⟨A,cp,rfl,hC⟩:=hv.toC;have N:=gg.grown J.gr;obtain⟨d0,d1,d2,d3,e0,e1,e2,e3⟩:=ag N;obtain⟨x0,x1,x2,x3,x4,y0⟩:=J.rd.cells;have y3:=y0 3;have gk:=J.rd.lt;have gj:=N.lt;have ga:=J.gr.size;have gb:=I.trans J;simp only[jO]at ga;clear M D HP y0;(go_wp2_with fail);have ge:=((((N.far (p:=⟨E.R,3,none⟩) (by show w.heap.size≠E.R;omega) (.bool s.head)).set_ 0 (.int .i64 n.kind)).set_ 1 (.string n.text)).set_ 2 (.slice A n.kids.length cp)).set_ 3 (.int .i64 n.pos) |>.alloc (.cells (nv n A cp) 24);refine jL (eX rfl _ (by rfl) (by simpa[bD]using ge)) rfl ?_;rw[HF.out];refine⟨⟨_,rfl,(hv.kept ?_).mono ?_⟩,?_⟩
  ·(repeat'(first|with_reducible exact am.refl _ _|with_reducible refine am.alloc ?_ _|with_reducible refine am.setCell ?_ ?_ _|with_reducible refine am.drew ?_ |with_reducible refine am.drewN ?_ _|(intro hX;simp at hX;omega)))
  ·intro b hb _;simp at hb;omega
  ·have gl:=gb.setHead s.head;(repeat'(first|with_reducible assumption|with_reducible refine aD.alloc ?_ _|with_reducible refine aD.own ?_ ?_ ?_ _|with_reducible refine aD.drew ?_ |with_reducible refine aD.drewN ?_ _|(simp<;>omega)|omega))
theorem fd(E:co)(k:FuncId)(first cap:Array Value)(part:R Nd)(s:St)(w:World)(h:aR E w s)
  (hk:∀a w,(callFunc k a).run Tryz.prog w=.ok (.enter k a) w)(hp:fP E k (first++cap) part w)(O:cZ part E.c s≠.out):
  Calls Tryz.prog 218 #[E.R,.func (.func k) first cap] w (mK E w (cZ part E.c s)):=by
 generalize hres:cZ part E.c s=res at *;have D:=hid hres;have HP:=hid hp;have gh:=hid O;obtain⟨c0,c1,c2,c3,c4,f0⟩:=h.cells;have f3:=f0 3;have U:=h.lt;have gi:=qe U;clear hres hp O f0;(go_enter Tryz.func218,Tryz.ntmps218);(go_wp2_with fail);have I:aD E { s with head:=true } w ((w.setCell ⟨E.R,3,none⟩ (.bool true)).alloc (.cells bD 24)):=((aD.refl h).setHead true).alloc _;(have gg:au ((w.setCell ⟨E.R,3,none⟩ (.bool true)).alloc (.cells bD 24)) w.heap.size 24 bD:=by have:=au.new (w.setCell ⟨E.R,3,none⟩ (.bool true)) 24 bD;simpa[World.setCell]using this);cases M:part E.c { s with head:=true }with
 |out=>exact absurd D.out.symm (by rw[cZ,M];exact gh.out)
 |fail p=>have HF:Hid (res=.fail p):=hid (by rw[<-D.out,cZ,M];rfl);refine(HP.out _ _ I.gr I.rd (by rw[M];exact nofun)).mono ?_;rw[M];rintro e w2⟨rfl,gd⟩;unfold al;refine⟨rfl,?_⟩;rw[HF.out];exact⟨rfl,I.gr.trans gd⟩
 |ok n s1=>
  have HF:=hid (show res=.ok n { s1 with head:=s.head }by rw[<-D.out,cZ,M];rfl);refine(HP.out _ _ I.gr I.rd (by rw[M];exact nofun)).mono ?_;rw[M];rintro e w2⟨⟨v,rfl,hv⟩,J⟩;obtain⟨A,cp,rfl,hC⟩:=hv.toC;have N:=gg.grown J.gr;obtain⟨d0,d1,d2,d3,e0,e1,e2,e3⟩:=ag N;obtain⟨x0,x1,x2,x3,x4,y0⟩:=J.rd.cells;have y3:=y0 3;have gk:=J.rd.lt;have gj:=N.lt;have ga:=J.gr.size;have gb:=I.trans J;simp only[jO]at ga;clear M D HP y0;(go_wp2_with fail);have ge:=((((N.far (p:=⟨E.R,3,none⟩) (by show w.heap.size≠E.R;omega) (.bool s.head)).set_ 0 (.int .i64 n.kind)).set_ 1 (.string n.text)).set_ 2 (.slice A n.kids.length cp)).set_ 3 (.int .i64 n.pos) |>.alloc (.cells (nv n A cp) 24);refine jL (eX rfl _ (by rfl) (by simpa[bD]using ge)) rfl ?_;rw[HF.out];refine⟨⟨_,rfl,(hv.kept ?_).mono ?_⟩,?_⟩
  ·(repeat'(first|with_reducible exact am.refl _ _|with_reducible refine am.alloc ?_ _|with_reducible refine am.setCell ?_ ?_ _|with_reducible refine am.drew ?_ |with_reducible refine am.drewN ?_ _|(intro hX;simp at hX;omega)))
  ·intro b hb _;simp at hb;omega
  ·have gl:=gb.setHead s.head;(repeat'(first|with_reducible assumption|with_reducible refine aD.alloc ?_ _|with_reducible refine aD.own ?_ ?_ ?_ _|with_reducible refine aD.drew ?_ |with_reducible refine aD.drewN ?_ _|(simp<;>omega)|omega))
def tN(E:co)(k:FuncId)(args:Array Value)(m:R (List Nd))(w0:World):Prop:=
 ∀(w:World)(s:St),w0.grownBy w (some E.R)->aR E w s->m E.c s≠.out->Calls Tryz.prog k args w (Ll E w (m E.c s))
theorem lm(E:co)(k:FuncId)(first cap:Array Value)(part:R (List Nd))(s:St)(w:World)(h:aR E w s)
  (hk:∀a w,(callFunc k a).run Tryz.prog w=.ok (.enter k a) w)(hp:tN E k (first++cap) part w)(M:ce part E.c s≠.out):
  Calls Tryz.prog 185 #[E.R,.func (.func k) first cap] w (Ll E w (ce part E.c s)):=by
 generalize hres:ce part E.c s=res at *;have I:=hid hres;have HP:=hid hp;have gb:=hid M;obtain⟨c0,c1,c2,c3,c4,f0⟩:=h.cells;have f3:=f0 3;clear hres hp M f0;(go_enter Tryz.func185,Tryz.ntmps185);(go_wp2_with fail);have D:=(aD.refl h).setHead false;cases J:part E.c { s with head:=false }with
 |out=>exact absurd I.out.symm (by rw[ce,J];exact gb.out)
 |fail p=>have HF:Hid (res=.fail p):=hid (by rw[<-I.out,ce,J];rfl);refine(HP.out _ _ D.gr D.rd (by rw[J];exact nofun)).mono ?_;rw[J];rintro e w2⟨rfl,ga⟩;unfold al;refine⟨rfl,?_⟩;rw[HF.out];exact⟨rfl,D.gr.trans ga⟩
 |ok n s1=>
  have HF:=hid (show res=.ok n { s1 with head:=s.head }by rw[<-I.out,ce,J];rfl);refine(HP.out _ _ D.gr D.rd (by rw[J];exact nofun)).mono ?_;rw[J];rintro e w2⟨⟨v,rfl,hv⟩,N⟩;obtain⟨x0,x1,x2,x3,x4,y0⟩:=N.rd.cells;have y3:=y0 3;have U:=D.trans N;have gd:=h.lt;have O:=D.gr.size;clear J I HP y0;(go_wp2_with fail);go_ret;rw[HF.out];refine⟨⟨_,rfl,(hv.kept ?_).mono ?_⟩,?_⟩
  ·(repeat'(first|with_reducible exact am.refl _ _|with_reducible refine am.alloc ?_ _|with_reducible refine am.setCell ?_ ?_ _|with_reducible refine am.drew ?_ |with_reducible refine am.drewN ?_ _|(intro hX;simp at hX;omega)))
  ·intro b hb _;exact jB O hb
  ·exact U.setHead s.head
def T1(E:co)(s:St)(b off:Nat)(k:Int)(x:ByteArray)(w:World):Prop:=
 w.cell? ⟨E.R,0,none⟩=some (.slice (some ⟨b,off,none⟩) E.c.toks.length E.cap)/\w.cell? ⟨E.R,1,none⟩=some (.int .i64 s.at_) /\
 w.cell? ⟨b,off+(s.at_+1)*3,none⟩=some (.int .i64 k)/\w.cell? ⟨b,off+(s.at_+1)*3+1,none⟩=some (.string x)
theorem Ln{E:co}{s:St}{w:World}(h:aR E w s)(D:s.at_+1<E.c.toks.length):∃b off,∀w',aR E w' s->T1 E s b off (ar E.c (s.at_+1)).kind (ar E.c (s.at_+1)).text w':=by obtain⟨b,off,eA,hb,t0,U,O⟩:=h.tok _ D;refine⟨b,off,fun w' h'=>?_⟩;obtain⟨c0,c1,_,_,_,_⟩:=h'.cells;obtain⟨b',off',eA',N,J,I,M⟩:=h'.tok _ D;rw[eA]at eA' c0;injection eA' with e;injection e with e1 e2;subst e1 e2;exact⟨c0,c1,J,I⟩
theorem ri(E:co)(s:St)(w:World)(h:aR E w s):Calls Tryz.prog 126 #[E.R] w fun e w'=>e=.returned (.bool (dp E.c s))/\cU E s w w':=by
 have M:=hid (fun w'(h:aR E w' s)=>bW E s ⟨#[91]⟩ w' h);have O:=h.most;have J:=cU.refl h;by_cases D:aP E.c s ⟨#[91]⟩=true
 ·have U:=pE h D;by_cases I:s.at_+1<E.c.toks.length
  ·obtain⟨b,off,hS⟩:=Ln h I;have N:=hid hS;(have hs:dp E.c s=((ar E.c (s.at_+1)).kind==6&&((ar E.c (s.at_+1)).text.toList==(⟨#[93]⟩:BA).toList)):=by unfold dp;rw[D,gQ I,dF];unfold ar;rw[gQ I];rfl);rw[hs];(have g1:decide ((s.at_:Int)+1<(E.c.toks.length:Int))=true:=by simp;omega);(have g2:(0:Int)<=(s.at_:Int)+1:=by omega);(have g3:(s.at_:Int)+1<(E.c.toks.length:Int):=by omega);have g4:IntKind.i64.wrap ((s.at_:Int)+1)=(s.at_:Int)+1:=gO _ (by omega);(have g5:((s.at_:Int)+1).toNat=s.at_+1:=by omega);rw[D]at M;clear hs hS D;generalize ar E.c (s.at_+1)=t at *;obtain⟨tk,tt,tp⟩:=t;simp only at *;have k0:∀n:Wd (cU E s w),n.wd.cell? ⟨E.R,0,none⟩=some (.slice (some ⟨b,off,none⟩) E.c.toks.length E.cap):=fun n=>(N.out _ n.ok.rd).1;have k1:∀n:Wd (cU E s w),n.wd.cell? ⟨E.R,1,none⟩=some (.int .i64 s.at_):=fun n=>(N.out _ n.ok.rd).2.1;have k2:∀n:Wd (cU E s w),n.wd.cell? ⟨b,off+(s.at_+1)*3,none⟩=some (.int .i64 tk):=fun n=>(N.out _ n.ok.rd).2.2.1;have k3:∀n:Wd (cU E s w),n.wd.cell? ⟨b,off+(s.at_+1)*3+1,none⟩=some (.string tt):=fun n=>(N.out _ n.ok.rd).2.2.2;(have z1:(⟨#[93]⟩:BA).toList=[93]:=by decide +kernel);rw[z1];cases h1:(tk==6)<;>cases h2:(tt.toList==[93]);all_goals
    (go_enter Tryz.func126,Tryz.ntmps126);(go_wp2_with fail);haveI:Nonempty (Wd (cU E s w)):=⟨⟨w,J⟩⟩
    refine i7 (cU E s w) (by kernel_rfl) (by kernel_rfl) J.drew ?_;(repeat(go_big_quiet_step ((go_at_call 42;rename_i n;refine(M.out _ n.ok.rd).mono ?_;rintro e w'⟨rfl,hb⟩;exact⟨rfl,⟨w',n.ok.step hb⟩,rfl⟩))));refine jS ?_;intro n;(go_wp2_with fail);go_ret;exact⟨rfl,n.ok⟩
  ·(have hs:dp E.c s=false:=by unfold dp;rw[D,qB (by omega)];rfl);rw[hs];(have g1:decide ((s.at_:Int)+1<(E.c.toks.length:Int))=false:=by simp;omega);have g4:IntKind.i64.wrap ((s.at_:Int)+1)=(s.at_:Int)+1:=gO _ (by omega);have k0:∀n:Wd (cU E s w),n.wd.cell? ⟨E.R,0,none⟩=some (.slice E.A E.c.toks.length E.cap):=fun n=>n.ok.rd.cells.1;have k1:∀n:Wd (cU E s w),n.wd.cell? ⟨E.R,1,none⟩=some (.int .i64 s.at_):=fun n=>n.ok.rd.cells.2.1;rw[D]at M;clear hs D
   ·(go_enter Tryz.func126,Tryz.ntmps126);(go_wp2_with fail);haveI:Nonempty (Wd (cU E s w)):=⟨⟨w,J⟩⟩
    refine i7 (cU E s w) (by kernel_rfl) (by kernel_rfl) J.drew ?_;(repeat(go_big_quiet_step ((go_at_call 42;rename_i n;refine(M.out _ n.ok.rd).mono ?_;rintro e w'⟨rfl,hb⟩;exact⟨rfl,⟨w',n.ok.step hb⟩,rfl⟩))));refine jS ?_;intro n;(go_wp2_with fail);go_ret;exact⟨rfl,n.ok⟩
 ·(have hs:dp E.c s=false:=by unfold dp;simp[D]);rw[hs];rw[show aP E.c s ⟨#[91]⟩=false by simpa using D]at M;clear hs D
  ·go_enter Tryz.func126,Tryz.ntmps126
   ·(go_wp2_with fail);haveI:Nonempty (Wd (cU E s w)):=⟨⟨w,J⟩⟩
    refine i7 (cU E s w) (by kernel_rfl) (by kernel_rfl) J.drew ?_;(repeat(go_big_quiet_step ((go_at_call 42;rename_i n;refine(M.out _ n.ok.rd).mono ?_;rintro e w'⟨rfl,hb⟩;exact⟨rfl,⟨w',n.ok.step hb⟩,rfl⟩))));refine jS ?_;intro n;(go_wp2_with fail);go_ret;exact⟨rfl,n.ok⟩
end
section
open Go.RowKit Go.Lib Go.Proofs
def eF(E:co)(m:R Nd)(f:FuncId):Prop:=
 ∀(w:World)(s:St),aR E w s->m E.c s≠.out->Calls Tryz.prog f #[E.R] w (mK E w (m E.c s))
structure oy(E:co)(F:fJ):Prop where
 typ:eF E F.typ 131
 expr:eF E F.expr 41
 unary:eF E F.unary 92
 stmt:eF E F.stmt 135
 ifS:eF E F.ifS 181
 g:F.g<=1000000
theorem eF.part{E:co}{m:R Nd}{f:FuncId}(h:eF E m f)(w0:World):fP E f #[E.R] m w0:=fun w s _ hr hm=>h w s hr hm
theorem aq.make{X:Nat->Prop}{wj w2:World}{l:List Nd}{xs:List Value}(k:Nat)(M:l.length=k)(J:an X wj l xs)(kind:Int)(t:ByteArray)(pos:Int)
  (hb:Below (wj.alloc (.cells xs.toArray 24)).heap.size (wj.alloc (.cells xs.toArray 24)) w2):
  aq (fun b=>(X b/\b<wj.heap.size)\/b=wj.heap.size) w2 (.agg #[.int .i64 kind,.string t,.slice (some ⟨wj,0,none⟩) k k,.int .i64 pos]) (.mk kind t l pos):=by
 subst M;have I:au w2 wj.heap.size 24 xs.toArray:=(au.new wj 24 xs.toArray).below hb (by simp);refine⟨some ⟨wj,0,none⟩,l.length,xs,rfl,d5 _,⟨J.len,fun _=>⟨wj.heap.size,0,rfl,.inr rfl,fun j u hu=>?_⟩⟩,?_⟩
 ·have:=I.cell (0+j);rw[this,kR];simpa using hu
 ·refine((J.mono (Y:=fun b=>X b/\b<wj.heap.size) fun b hb D=>⟨hb,D⟩).keep (w':=w2) fun b hx D=>?_).mono fun b hb _=>.inl hb;exact(hb.block b (by simp;omega)).trans (gW wj _ b D)
theorem aq.leaf{X:Nat->Prop}{w:World}(kind:Int)(t:ByteArray)(pos:Int):aq X w (.agg #[.int .i64 kind,.string t,.slice none 0 0,.int .i64 pos]) (.mk kind t [] pos):=
 ⟨none,0,[],rfl,d5 _,⟨rfl,fun h=>absurd h (by simp)⟩,an.nil⟩
theorem aq.of_slice{X:Nat->Prop}{w:World}{v:Value}{l:List Nd}(h:dG X w v l)(kind:Int)(t:ByteArray)(pos:Int):aq X w (.agg #[.int .i64 kind,.string t,v,.int .i64 pos]) (.mk kind t l pos):=by obtain⟨A,cap,xs,rfl,J,I,D⟩:=h;exact⟨A,cap,xs,rfl,J,I,D⟩
theorem cell_kept{w w':World}(hb:Below w w w'){a:Addr}{v:Value}(hc:w.cell? a=some v):w'.cell? a=some v:=(hb.cell (gX w a hc)).trans hc
abbrev nH(a0 a1 a2 a3 a4:Addr)(v0 v1 v2 v3 v4:Value)(w:World):Prop:=w.cell? a0=some v0/\w.cell? a1=some v1/\w.cell? a2=some v2/\w.cell? a3=some v3/\w.cell? a4=some v4
section
variable {a0 a1 a2 a3 a4:Addr} {v0 v1 v2 v3 v4:Value} {w w':World}
theorem nH.below(h:nH a0 a1 a2 a3 a4 v0 v1 v2 v3 v4 w)(hb:Below w w w'):nH a0 a1 a2 a3 a4 v0 v1 v2 v3 v4 w':=
 ⟨cell_kept hb h.1,cell_kept hb h.2.1,cell_kept hb h.2.2.1,cell_kept hb h.2.2.2.1,cell_kept hb h.2.2.2.2⟩
theorem nH.drew(h:nH a0 a1 a2 a3 a4 v0 v1 v2 v3 v4 w):nH a0 a1 a2 a3 a4 v0 v1 v2 v3 v4 w.drew:=h.below (gG _ _).drew
theorem nH.alloc(h:nH a0 a1 a2 a3 a4 v0 v1 v2 v3 v4 w)(o:Obj):nH a0 a1 a2 a3 a4 v0 v1 v2 v3 v4 (w.alloc o):=h.below ((gG _ _).alloc (d5 _) o)
theorem nH.far(h:nH a0 a1 a2 a3 a4 v0 v1 v2 v3 v4 w){p:Addr}(u:Value)(N:a0.block≠p.block)(M:a1.block≠p.block)(J:a2.block≠p.block)(I:a3.block≠p.block)(D:a4.block≠p.block):nH a0 a1 a2 a3 a4 v0 v1 v2 v3 v4 (w.setCell p u):=
 have k:∀(a:Addr)(v:Value),w.cell? a=some v->a.block≠p.block->(w.setCell p u).cell? a=some v:=fun a _ hc hn=>(kS (jQ w p u a.block hn)).trans hc
 ⟨k _ _ h.1 N,k _ _ h.2.1 M,k _ _ h.2.2.1 J,k _ _ h.2.2.2.1 I,k _ _ h.2.2.2.2 D⟩
theorem nH.put(h:nH a0 a1 a2 a3 a4 v0 v1 v2 v3 v4 w)(g:Nat)(N:a0.block≠g)(M:a1.block≠g)(J:a2.block≠g)(I:a3.block≠g)(D:a4.block≠g)(a b c d:Value):
  nH a0 a1 a2 a3 a4 v0 v1 v2 v3 v4 ((((w.setCell ⟨g,0,none⟩ a).setCell ⟨g,1,none⟩ b).setCell ⟨g,2,none⟩ c).setCell ⟨g,3,none⟩ d):=
 (((h.far (p:=⟨g,0,none⟩) a N M J I D).far (p:=⟨g,1,none⟩) b N M J I D).far (p:=⟨g,2,none⟩) c N M J I D).far (p:=⟨g,3,none⟩) d N M J I D
theorem nH.grown{R:Nat}(h:nH a0 a1 a2 a3 a4 v0 v1 v2 v3 v4 w)(D:w.grownBy w' (some R))(O:a0.block≠R)(N:a1.block≠R)(M:a2.block≠R)(J:a3.block≠R)(I:a4.block≠R):nH a0 a1 a2 a3 a4 v0 v1 v2 v3 v4 w':=
 have k:∀(a:Addr)(v:Value),w.cell? a=some v->a.block≠R->w'.cell? a=some v:=fun a _ hc hn=>
  (kS (D.block a.block (gX w a hc) (fun e=>hn (by injection e)))).trans hc
 ⟨k _ _ h.1 O,k _ _ h.2.1 N,k _ _ h.2.2.1 M,k _ _ h.2.2.2.1 J,k _ _ h.2.2.2.2 I⟩
end
def ck(w:World)(g:Nat)(a b c d:Value):World:=(((w.setCell ⟨g,0,none⟩ a).setCell ⟨g,1,none⟩ b).setCell ⟨g,2,none⟩ c).setCell ⟨g,3,none⟩ d
theorem cg{w:World}{g:Nat}{z0 z1 z2 z3:Value}(h:au w g 24 #[z0,z1,z2,z3])(a b c d:Value):au (ck w g a b c d) g 24 #[a,b,c,d]:=by unfold ck;have:=(((h.set_ 0 a).set_ 1 b).set_ 2 c).set_ 3 d;simpa using this
theorem fe{E:co}{s:St}{w wk:World}{g:Nat}(h:aD E s w wk)(D:w.heap.size<=g)(I:E.R<g)(a b c d:Value):aD E s w (ck wk g a b c d):=
 (((h.own (p:=⟨g,0,none⟩) D I a).own (p:=⟨g,1,none⟩) D I b).own (p:=⟨g,2,none⟩) D I c).own (p:=⟨g,3,none⟩) D I d
theorem dq{X:Nat->Prop}{wk:World}{g:Nat}(D:∀b,X b->b≠g)(a b c d:Value):am X wk (ck wk g a b c d):=
 ((((am.refl X wk).setCell (p:=⟨g,0,none⟩) (fun h=>D g h rfl) a).setCell (p:=⟨g,1,none⟩) (fun h=>D g h rfl) b).setCell (p:=⟨g,2,none⟩) (fun h=>D g h rfl) c).setCell (p:=⟨g,3,none⟩) (fun h=>D g h rfl) d
theorem aB{E:co}{w wk:World}{res:bH Nd}{n:Nd}{s:St}{X:Nat->Prop}{a0 a1 a2 a3 z0 z1 z2 z3:Value}{g q:Nat}{fn:Func}{a:Act}(N:res=.ok n s)
  (J:aq X wk (.agg #[a0,a1,a2,a3]) n)(O:aD E s w wk)(hb:au wk g 24 #[z0,z1,z2,z3])(U:w.heap.size<=g)(h:E.R<g)(I:∀b,X b->w.heap.size<=b/\b≠g)
  (D:fn.results = #[.cell q 24])(M:a.tmps.getD q undef=.pointer (some ⟨g,0,none⟩))(hd:a.defers=[]):
  bodyPost Tryz.prog fn (mK E w res) .ret a (ck wk g a0 a1 a2 a3):=by refine jL (eX D _ M (cg hb a0 a1 a2 a3)) hd ?_;rw[N];exact⟨⟨_,rfl,(J.kept (dq (fun b hb=>(I b hb).2) _ _ _ _)).mono fun b hb _=>(I b hb).1⟩,fe O U h _ _ _ _⟩
theorem ah{E:co}{w w1 w2:World}{res:bH Nd}{p:Int}(D:res=.fail p)(J:w.grownBy w1 (some E.R))(I:w1.grownBy w2 (some E.R)):mK E w res (al p) w2:=by rw[D];exact⟨rfl,J.trans I⟩
theorem LN(c b:UInt8)(l:List UInt8)(h:(b==c)=false):Lib.index (b::l) [c]=if Lib.index l [c] = -1 then -1 else Lib.index l [c]+1:=by rw[Lib.index_one,Lib.index_one,Lib.indexByte,h];simp
theorem Do(c b:UInt8)(l:List UInt8)(h:(b==c)=false):∀k,Lib.replaceK [c] [] k (b::l)=b::Lib.replaceK [c] [] k l
 |0=>rfl
 |k+1=>by
  have J:=Lib.index_ge l [c];rw[Lib.replaceK,Lib.replaceK,LN c b l h];by_cases I:Lib.index l [c] = -1
  ·rw[gE I,I];rfl
  ·rw[gA I];obtain⟨i,D⟩:∃i:Nat,Lib.index l [c]=i:=⟨(Lib.index l [c]).toNat,by omega⟩;rw[D,gA (by rw[kK];omega),gA (by rw[kK];omega)];rw[show((i:Int)+1).toNat=i+1 by omega,show((i:Int)).toNat=i by omega];show(b::l.take i)++[]++_=_;rw[show i+1+[c].length=(i+[c].length)+1 from rfl,qW];rfl
theorem od(c:UInt8):∀(l:List UInt8)(k:Nat),l.count c<=k->Lib.replaceK [c] [] k l=l.filter fun x=>x != c
 |[],0,_=>rfl
 |[],k+1,_=>rfl
 |b::l,k,D=>by
  cases h:b==c with
  |true=>have hb:=eq_of_beq h;subst hb;rw[List.count_cons_self]at D;obtain⟨k,rfl⟩:∃j,k=j+1:=⟨k-1,by omega⟩;(have J:Lib.index (b::l) [b]=0:=by rw[Lib.index_one,Lib.indexByte];simp);rw[Lib.replaceK,J];show[]++[]++Lib.replaceK [b] [] k l=_;rw[od b l k (by omega)];simp
  |false=>rw[Do c b l h k];rw[List.count_cons,h]at D;rw[od c l k (by simpa using D)];(have I:(b != c)=true:=by simp[bne,h]);rw[List.filter_cons,I];rfl
theorem uP(c:UInt8)(l:List UInt8):Lib.replaceAll l [c] []=l.filter fun x=>x != c:=by unfold Lib.replaceAll Lib.replace;rw[gA (by simp)];refine od c l _ ?_;unfold Lib.replaceNum;rw[gE (.inl (by decide)),Lib.count_one];exact d5 _
theorem nQ(c:UInt8):∀l:List UInt8,decide (Lib.indexByte l c<0) = !(l.any fun x=>x==c)
 |[]=>rfl
 |b::l=>by
  have ih:=nQ c l;have I:=Lib.indexByte_ge l c;rw[Lib.indexByte,List.any_cons];cases h:b==c with
  |true=>rfl
  |false=>
   rw[vw,<-ih];simp only[gT,jY];rw[qb,gS,gS];by_cases D:Lib.indexByte l c = -1
   ·rw[D];simp
   ·rw[gA (by simpa using D)];omega
theorem LO(x c:UInt8):(x==c)=(x.toNat==c.toNat):=by rw[qb,kK,kK];exact⟨fun h=>by rw[h],fun h=>UInt8.toNat_inj.mp h⟩
end
end Go.Proofs.YtiebcdeafofgdaaGreatDoor
