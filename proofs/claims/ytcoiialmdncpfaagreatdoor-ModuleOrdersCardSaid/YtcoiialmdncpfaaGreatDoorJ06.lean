/-
  Parts of the proof: Rkit2 RputA Smem Runion Rinter Rcons Rparams. By an AI agent.
-/
import Derived.Test.YtcoiialmdncpfaaGreatDoorJ05
import Derived.Deep.RegionLaw
open Go.Proofs.Tryz
set_option maxRecDepth 100000
set_option maxHeartbeats 8000000
namespace Go.Proofs.YtcoiialmdncpfaaGreatDoor
section
open Go.RowKit Go.Lib Go.Proofs
theorem jT:type_of% @List.length_nil:=@List.length_nil
theorem kO:type_of% @List.flatMap_append:=@List.flatMap_append
theorem kQ:type_of% @Go.World.ownsRow.alloc:=@Go.World.ownsRow.alloc
theorem qA:type_of% @Go.World.ownsRow.lt:=@Go.World.ownsRow.lt
theorem vB:type_of% @List.getElem_cons_zero:=@List.getElem_cons_zero
theorem vC:type_of% @Nat.zero_mul:=@Nat.zero_mul
theorem xh:type_of% @Option.getD_none:=@Option.getD_none
structure eS(B:Nat)(Z:Nat->Prop)(w:World)(v:Value)(l:List Nd):Prop where
 out:∃xs,w.ownsRow B 41 4 v l.length xs/\ae (fun b=>B<=b/\some b≠v.ownBlock/\¬ Z b) w l xs
 far:∀g,v.ownBlock=some g->¬ Z g
section
variable {B:Nat} {Z:Nat->Prop} {w w':World} {v:Value} {l:List Nd}
theorem eS.nil(B:Nat)(Z:Nat->Prop)(w:World):eS B Z w (.slice none 0 0) []:=⟨⟨[],kP _ _ _ _,ae.nil⟩,fun g h=>by simp[Value.ownBlock]at h⟩
theorem eS.keep(h:eS B Z w v l)(J:∀b,B<=b->¬ Z b->b<w.heap.size->w'.heap[b]? = w.heap[b]?):eS B Z w' v l:=by
 obtain⟨xs,O,q⟩:=h.out;refine⟨⟨xs,⟨O.1,?_⟩,q.keep fun b hb D=>J b hb.1 hb.2.2 D⟩,h.far⟩;rcases O.2 with x|⟨g,cap,cur,e,M,I,r⟩
 ·exact .inl x
 ·refine .inr ⟨g,cap,cur,e,M,?_,r⟩;have D:g<w.heap.size:=by
   rcases kN g w.heap.size with D|hge
   ·exact D
   ·rw[kH hge]at I;cases I
  exact(J g M (h.far g (by rw[e];rfl)) D).trans I
theorem eS.kept(h:eS B Z w v l)(D:ak (fun b=>B<=b/\¬ Z b) w w'):eS B Z w' v l:=h.keep fun b J I h3=>D.block b ⟨J,I⟩ h3
theorem eS.grown{R:Nat}(h:eS B Z w v l)(D:w.grownBy w' (some R))(I:R<B):eS B Z w' v l:=
 h.keep fun b hb _ hlt=>D.block b hlt (fun e=>by injection e;omega)
theorem eS.lt(h:eS B Z w v l):∀g,v.ownBlock=some g->B<=g/\g<w.heap.size:=by obtain⟨xs,D,_⟩:=h.out;exact fun g hg=>D.lt g hg
theorem eS.values(h:eS B Z w v l):cS (fun b=>B<=b/\¬ Z b) w v l:=by
 obtain⟨xs,D,J⟩:=h.out;rcases D.2 with⟨rfl,z⟩|⟨g,cap,cur,rfl,y,x,I,_,O,M⟩
 ·exact⟨none,0,xs,by rw[z],by omega,⟨D.1,fun h=>by omega⟩,J.mono fun b hb _=>⟨hb.1,hb.2.2⟩⟩
 ·refine⟨_,cap,xs,rfl,I,⟨D.1,fun _=>⟨g,0,rfl,⟨y,h.far g rfl⟩,fun j u hu=>?_⟩⟩,J.mono fun b hb _=>⟨hb.1,hb.2.2⟩⟩;(have q:j<l.length*4:=by have:=(List.getElem?_eq_some_iff.1 hu).1;rw[D.1]at this;exact this);rw[kL];unfold World.cell?;rw[x];simp only[qT,gX,kK];rw[<-M,vp q]at hu;rw[<-hu];simp
theorem eS.form(h:eS B Z w v l):∃A c,v=.slice A l.length c/\l.length<=c:=by obtain⟨A,c,xs,e,D,_⟩:=h.values;exact⟨A,c,e,D⟩
theorem eS.one{K S:Nat}{n:Nd}{a b c d:Value}{w1:World}(hb:aa w K 41 #[a,b,c,d])(I:B<=K)(z:w1.heap.size=K)(h:aY (fun b=>S<=b) w1 n [a,b,c,d])(q:B<=S)
  (O:∀b,S<=b->b<w1.heap.size->w.heap[b]? = w1.heap[b]?)(J:∀b,S<=b->b<=K->¬ Z b)(D:S<=K):eS B Z w (.slice (some ⟨K,0,none⟩) 1 1) [n]:=by
 refine⟨⟨[a,b,c,d],⟨rfl,.inr ⟨K,1,#[a,b,c,d],rfl,I,hb,gB _,by unfold maxLen;omega,rfl,rfl⟩⟩,?_⟩,fun g hg=>?_⟩
 ·have y:=ae.one (h.mono (Y:=fun b=>S<=b/\b<K) fun b hb hlt=>⟨hb,by omega⟩);have x:=y.keep (w':=w) fun b hb hlt=>O b hb.1 hlt;refine x.mono fun b hb _=>⟨by omega,fun e=>?_,J b hb.1 (by omega)⟩;(have M:b=K:=by simpa[Value.ownBlock]using e);omega
 ·(have M:K=g:=by simpa[Value.ownBlock]using hg);subst M;exact J K D (gB _)
end
structure EQ(E:bC)(s:St)(B:Nat)(Z:Nat->Prop)(w w1 w2:World)(v':Value)(l:List Nd):Prop where
 own:eS B Z w2 v' l
 mov:au E s w w2
 old:∀b,b<w1.heap.size->(Z b\/b<B)->w2.heap[b]? = w1.heap[b]?
 le:w1.heap.size<=w2.heap.size
theorem G4{o:Oper}{a:Act}{K:Act->World->Prop}{Q:Exit->Act->World->Prop}(s x:Operand)
  (ho:o.op=.call { callee:=.builtin .append,args:=#[s,x],argTypes:=#[39,39] })
  (E:bC)(st:St)(B S:Nat)(Z:Nat->Prop)(w w1:World)(u:Value)(l:List Nd)(n:Nd)(A:Option Addr)(cap:Nat)(hs:a.eval s=u)(hx:a.eval x=.slice (some ⟨w1,0,none⟩) 1 1)
  (hO:eS B Z w1 u l)(I:au E st w w1)(gj:w.heap.size<=B)(hR:E.R<B)(hB:B<=S)(hS:S<=w1.heap.size)(hZ:∀b,Z b->b<S)(hu:∀g,u.ownBlock=some g->g<S)(hl:l.length<=1000000)
  (hV:aY (fun b=>S<=b) w1 n [.int .i64 n.kind,.string n.text,.slice A n.kids.length cap,.int .i64 n.pos])
  (h:∀g c w2,EQ E st B Z w w1 w2 (.slice (some ⟨g,0,none⟩) (l.length+1) c) (l++[n])->K (a.put o.dst (.slice (some ⟨g,0,none⟩) (l.length+1) c)) w2):
  o.wp prog a (w1.alloc (.cells (nv n A cap) 41)) K Q:=by
 obtain⟨i0,hi,ge,gd,gb⟩:=qr pw;obtain⟨xs,q,gh⟩:=hO.out;refine vE _ s x 39 ho B 41 i0 _ 4 56 underlying39 hi ge gd gb rfl (by omega) u l.length xs hs (q.alloc _) ⟨w1,0,none⟩ 1 1 [.int .i64 n.kind,.string n.text,.slice A n.kids.length cap,.int .i64 n.pos] hx rfl
  (qQ (cs:=(nv n A cap)) (kJ _ _)) (rf n A cap) (by omega) (by unfold maxLen;omega) (by omega) (by rw[gP];omega) _ rfl ?_
 intro g c w2 hown1 O ga _;have gg:∀g,u.ownBlock=some g->B<=g:=fun g O=>(hO.lt g O).1;have J:∀b,b<w1.heap.size->some b≠u.ownBlock->w2.heap[b]? = w1.heap[b]? :=fun b hb hne=>(O.block b (by rw[gP];omega) hne).trans (gS w1 _ b hb);have hold:∀b,b<w1.heap.size->(Z b\/b<B)->w2.heap[b]? = w1.heap[b]? :=fun b hb gi=>J b hb (fun e=>by
  rcases gi with h|h
  ·exact hO.far b e.symm h
  ·have:=gg b e.symm;omega)
 have y:w1.heap.size<=w2.heap.size:=gN (by rw[gP];omega) O.size;have z:¬ Z g:=by
  rcases ga with e|e
  ·exact hO.far g e
  ·rw[gP]at e;intro hz;have:=hZ g hz;omega
 have M:ae (fun b=>B<=b/\some b≠(Value.slice (some ⟨g,0,none⟩) (l.length+1) c).ownBlock/\¬ Z b) w2 (l++[n]) (xs++[.int .i64 n.kind,.string n.text,.slice A n.kids.length cap,.int .i64 n.pos]):=by
  have h1:ae (fun b=>B<=b/\some b≠u.ownBlock/\¬ Z b/\b<w1.heap.size) w1 (l++[n]) (xs++[.int .i64 n.kind,.string n.text,.slice A n.kids.length cap,.int .i64 n.pos]):=
   (gh.mono fun b hb D=>⟨hb.1,hb.2.1,hb.2.2,D⟩).app (ae.one (hV.mono fun b hb D=>⟨gN hB hb,fun e=>by have:=hu b e.symm;omega,fun hz=>by have:=hZ b hz;omega,D⟩))
  have h2:=h1.keep (w':=w2) fun b hb D=>J b D hb.2.1;refine h2.mono fun b hb _=>⟨hb.1,fun e=>?_,hb.2.2.1⟩;(have e3:b=g:=by simpa[Value.ownBlock]using e);subst e3;rcases ga with e|e
  ·exact hb.2.1 e.symm
  ·rw[gP]at e;have:=hb.2.2.2;omega
 refine h g c w2 ⟨⟨⟨_,by rw[gK];exact hown1,M⟩,fun g' hg'=>?_⟩,⟨I.rd.keep fun b hb=>?_,?_⟩,hold,y⟩
 ·(have e3:g=g':=by simpa[Value.ownBlock]using hg');rw[<-e3];exact z
 ·exact hold b (Nat.lt_of_le_of_lt hb I.rd.lt) (.inr (by omega))
 ·refine⟨O.os.trans I.gr.os,O.tape.trans I.gr.tape,O.output.trans I.gr.output,gN I.gr.size y,fun k hk hne=>?_⟩;exact(hold k (jY hk I.gr.size) (.inr (by omega))).trans (I.gr.block k hk hne)
theorem lJ{ops:Array Oper}{o:Oper}{a:Act}{K:Act->World->Prop}{Q:Exit->Act->World->Prop}{D:Prop}(J:o.guard=none)(s x:Operand)
  (z:o.op=.call { callee:=.builtin .append,args:=#[s,x],argTypes:=#[39,39] })
  (E:bC)(st:St)(B S:Nat)(Z:Nat->Prop)(w w1:World)(u:Value)(l:List Nd)(n:Nd)(A:Option Addr)(cap:Nat)(y:a.eval s=u)(M:a.eval x=.slice (some ⟨w1,0,none⟩) 1 1)
  (hO:eS B Z w1 u l)(hm:au E st w w1)(I:w.heap.size<=B)(hR:E.R<B)(hB:B<=S)(hS:S<=w1.heap.size)(hZ:∀b,Z b->b<S)(q:∀g,u.ownBlock=some g->g<S)(hl:l.length<=1000000)
  (hV:aY (fun b=>S<=b) w1 n [.int .i64 n.kind,.string n.text,.slice A n.kids.length cap,.int .i64 n.pos])
  (h:∀g c w2,EQ E st B Z w w1 w2 (.slice (some ⟨g,0,none⟩) (l.length+1) c) (l++[n])->K (a.put o.dst (.slice (some ⟨g,0,none⟩) (l.length+1) c)) w2):
  if Region.wanted o (yielded ops a.tmps)=true then Oper.wp prog o a (w1.alloc (.cells (nv n A cap) 41)) K Q else D:=by(have O:Region.wanted o (yielded ops a.tmps)=true:=by simp[Region.wanted,J]);rw[gL O];exact G4 s x z E st B S Z w w1 u l n A cap y M hO hm I hR hB hS hZ q hl hV h
def eO(w:World)(K o:Nat)(a b c d:Value):World:=(((w.setCell ⟨K,o,none⟩ a).setCell ⟨K,o+1,none⟩ b).setCell ⟨K,o+2,none⟩ c).setCell ⟨K,o+3,none⟩ d
section
variable {E:bC} {s:St} {w wk:World} {K o:Nat} {a b c d:Value}
theorem uB:(eO wk K o a b c d).heap.size=wk.heap.size:=by simp[eO]
theorem fw(h:au E s w wk)(D:w.heap.size<=K)(I:E.R<K)(a b c d:Value):au E s w (eO wk K o a b c d):=
 (((h.own (p:=⟨K,o,none⟩) D I a).own (p:=⟨K,o+1,none⟩) D I b).own (p:=⟨K,o+2,none⟩) D I c).own (p:=⟨K,o+3,none⟩) D I d
theorem dB{X:Nat->Prop}(D:∀b,X b->b≠K):ak X wk (eO wk K o a b c d):=
 ((((ak.refl X wk).setCell (p:=⟨K,o,none⟩) (fun h=>D K h rfl) a).setCell (p:=⟨K,o+1,none⟩) (fun h=>D K h rfl) b).setCell (p:=⟨K,o+2,none⟩) (fun h=>D K h rfl) c).setCell (p:=⟨K,o+3,none⟩) (fun h=>D K h rfl) d
theorem ip{g:Nat}{t:TypeId}{cs:Array Value}(h:aa wk g t cs)(D:g≠K):aa (eO wk K o a b c d) g t cs:=
 (((h.far (p:=⟨K,o,none⟩) D a).far (p:=⟨K,o+1,none⟩) D b).far (p:=⟨K,o+2,none⟩) D c).far (p:=⟨K,o+3,none⟩) D d
theorem eJ{t:TypeId}{cs:Array Value}(h:aa wk K t cs):aa (eO wk K o a b c d) K t ((((cs.setIfInBounds o a).setIfInBounds (o+1) b).setIfInBounds (o+2) c).setIfInBounds (o+3) d):=
 (((h.set_ o a).set_ (o+1) b).set_ (o+2) c).set_ (o+3) d
end
end
section
open Go.RowKit Go.Lib Go.Proofs
attribute [local go_sem ↓] Go.wp_at_zero Go.wp_at_succ
theorem MB:(prog.info? 105).map (fun i=>(i.zero,i.size,i.bytes))=some (some (.agg #[.int .i64 0,.string ⟨#[]⟩,.int .i64 0]),3,32):=by kernel_rfl
theorem G5(l:List cz):∀u∈l.flatMap mc,u.oneCell'=true:=by intro u hu;obtain⟨x,_,D⟩:=List.mem_flatMap.1 hu;unfold mc at D;simp only[vb,qN,xj]at D;rcases D with rfl|rfl|rfl<;>rfl
def ii(B:Nat)(w:World)(v:Value)(l:List cz):Prop:=w.ownsRow B 105 3 v l.length (l.flatMap mc)
section
variable {B:Nat} {w w':World} {v:Value} {l:List cz}
theorem ii.nil(B:Nat)(w:World):ii B w (.slice none 0 0) []:=kP _ _ _ _
theorem ii.keep(h:ii B w v l)(M:∀b,B<=b->b<w.heap.size->w'.heap[b]? = w.heap[b]?):ii B w' v l:=by
 refine⟨h.1,?_⟩;rcases h.2 with O|⟨g,cap,cur,e,J,I,r⟩
 ·exact .inl O
 ·refine .inr ⟨g,cap,cur,e,J,?_,r⟩;have D:g<w.heap.size:=by
   rcases kN g w.heap.size with D|hge
   ·exact D
   ·rw[kH hge]at I;cases I
  exact(M g J D).trans I
theorem ii.below(h:ii B w v l)(hb:Below w w w'):ii B w' v l:=h.keep fun b _ hlt=>hb.block b hlt
theorem ii.lt(h:ii B w v l):∀g,v.ownBlock=some g->B<=g/\g<w.heap.size:=fun g hg=>qA h g hg
theorem ii.form(h:ii B w v l):∃A c,v=.slice A l.length c/\l.length<=c:=by
 rcases h.2 with⟨rfl,I⟩|⟨g,cap,cur,rfl,_,_,D,_⟩
 ·exact⟨none,0,by rw[I],by omega⟩
 ·exact⟨_,cap,rfl,D⟩
end
structure BD(B:Nat)(w1 w2:World)(u v':Value)(l':List cz):Prop where
 own:ii B w2 v' l'
 bel:Below B w1 w2
 keep:∀b,b<w1.heap.size->u.ownBlock≠some b->w2.heap[b]? = w1.heap[b]?
 at_:v'.ownBlock=u.ownBlock\/∃g,v'.ownBlock=some g/\w1.heap.size<=g
theorem BE{o:Oper}{a:Act}{K:Act->World->Prop}{Q:Exit->Act->World->Prop}(s x:Operand)
  (ho:o.op=.call { callee:=.builtin .append,args:=#[s,x],argTypes:=#[101,101] })
  (B:Nat)(w1:World)(u:Value)(l:List cz)(t:cz)(hs:a.eval s=u)(S:Nat)(z:a.eval x=.slice (some ⟨S,0,none⟩) 1 1)(hS:w1.heap.size=S)
  (y:ii B w1 u l)(hB:B<=w1.heap.size)(hl:l.length<=1000000)
  (h:∀g c w2,BD B w1 w2 u (.slice (some ⟨g,0,none⟩) (l.length+1) c) (l++[t])->K (a.put o.dst (.slice (some ⟨g,0,none⟩) (l.length+1) c)) w2):
  o.wp prog a (w1.alloc (.cells #[t.kind,t.text,t.pos] 105)) K Q:=by
 subst hS;obtain⟨i0,hi,M,J,I⟩:=qr MB;refine vE _ s x 101 ho B 105 i0 _ 3 32 underlying101 hi M J I rfl (by omega) u l.length _ hs (kQ y _) ⟨w1,0,none⟩ 1 1 [.int .i64 t.kind,.string t.text,.int .i64 t.pos] z rfl
  (qQ (cs:=#[t.kind,t.text,t.pos]) (kJ _ _)) (G5 [t]) (by omega) (by unfold maxLen;omega) (by omega) (by rw[gP];omega) _ rfl ?_
 intro g c w2 hown1 D O _;(have e:(l++[t]).flatMap mc=l.flatMap mc++[.int .i64 t.kind,.string t.text,.int .i64 t.pos]:=by rw[kO];rfl);have q:∀b,b<w1.heap.size->u.ownBlock≠some b->w2.heap[b]? = w1.heap[b]? :=fun b hb hu=>
  (D.block b (by rw[gP];omega) (fun e=>hu e.symm)).trans (gS w1 _ b hb)
 (have hb:Below B w1 w2:=by have h1:=(gC B w1).alloc hB (.cells #[t.kind,t.text,t.pos] 105);exact h1.trans ⟨D.os,D.tape,D.output,D.size,fun k q=>D.block k (by rw[gP];omega) (fun e=>by have:=(y.lt k e.symm).1;omega)⟩);refine h g c w2 ⟨?_,hb,q,?_⟩
 ·unfold ii;rw[e,gK];exact hown1
 ·rcases O with e|e
  ·exact .inl e.symm
  ·exact .inr ⟨g,rfl,by rw[e,gP];omega⟩
theorem ul{ops:Array Oper}{o:Oper}{a:Act}{K:Act->World->Prop}{Q:Exit->Act->World->Prop}{D:Prop}(I:o.guard=none)(s x:Operand)
  (q:o.op=.call { callee:=.builtin .append,args:=#[s,x],argTypes:=#[101,101] })
  (B:Nat)(w1:World)(u:Value)(l:List cz)(t:cz)(O:a.eval s=u)(S:Nat)(J:a.eval x=.slice (some ⟨S,0,none⟩) 1 1)(z:w1.heap.size=S)
  (hO:ii B w1 u l)(hB:B<=w1.heap.size)(y:l.length<=1000000)
  (h:∀g c w2,BD B w1 w2 u (.slice (some ⟨g,0,none⟩) (l.length+1) c) (l++[t])->K (a.put o.dst (.slice (some ⟨g,0,none⟩) (l.length+1) c)) w2):
  if Region.wanted o (yielded ops a.tmps)=true then Oper.wp prog o a (w1.alloc (.cells #[t.kind,t.text,t.pos] 105)) K Q else D:=by(have M:Region.wanted o (yielded ops a.tmps)=true:=by simp[Region.wanted,I]);rw[gL M];exact BE s x q B w1 u l t O S J z hO hB y h
theorem AF{ops:Array Oper}{rest:List Oper}{o:Oper}{a:Act}{Q:Exit->Act->World->Prop}(D:o.guard=none)(s x:Operand)
  (M:o.op=.call { callee:=.builtin .append,args:=#[s,x],argTypes:=#[101,101] })
  (B:Nat)(w1:World)(u:Value)(l:List cz)(t:cz)(J:a.eval s=u)(S:Nat)(I:a.eval x=.slice (some ⟨S,0,none⟩) 1 1)(q:w1.heap.size=S)
  (y:ii B w1 u l)(z:B<=w1.heap.size)(O:l.length<=1000000)
  (h:∀g c w2,BD B w1 w2 u (.slice (some ⟨g,0,none⟩) (l.length+1) c) (l++[t])->wpList prog ops Q rest (a.put o.dst (.slice (some ⟨g,0,none⟩) (l.length+1) c)) w2):
  wpList prog ops Q (o::rest) a (w1.alloc (.cells #[t.kind,t.text,t.pos] 105)):=
 vJ D fun _ hK=>BE s x M B w1 u l t J S I q y z O fun g c w2 h1=>hK _ _ (h g c w2 h1)
class NsC where
 ns:List cz
def oG(s:ByteArray)(i:Nat)(lv nv:Value):Array Value:=#[s,(i:Int),lv,nv]
structure Dq(w:World)(X:Nat)(s:ByteArray)(i:Nat)(l:List cz)(lv nv:Value)(ns:List cz):Prop where
 blk:aa w X 131 (oG s i lv nv)
 toks:ii (X+1) w lv l
 notes:ii (X+1) w nv ns
 apart:∀g,lv.ownBlock=some g->nv.ownBlock=some g->False
 nfew:ns.length<=i
structure ij[NsC](w:World)(X:Nat)(s:ByteArray)(i:Nat)(l:List cz):Prop where
 out:∃lv nv,Dq w X s i l lv nv NsC.ns
 le:i<=s.size
 most:s.size<=65536
 few:l.length<=65537
section
variable {w w':World} {X:Nat} {s:ByteArray} {i:Nat} {l:List cz} {lv nv:Value} {ns:List cz}
theorem Dq.keep(h:Dq w X s i l lv nv ns)(D:∀b,X<=b->b<w.heap.size->w'.heap[b]? = w.heap[b]?):Dq w' X s i l lv nv ns:=
 ⟨(D X (gB _) h.blk.lt).trans h.blk,h.toks.keep fun b hb hlt=>D b (by omega) hlt,h.notes.keep fun b hb hlt=>D b (by omega) hlt,h.apart,h.nfew⟩
theorem Dq.below(h:Dq w X s i l lv nv ns)(hb:Below w w w'):Dq w' X s i l lv nv ns:=h.keep fun b _ hlt=>hb.block b hlt
theorem Dq.set(h:Dq w X s i l lv nv ns)(j:Nat)(D:i<=j):Dq (w.setCell ⟨X,1,none⟩ (.int .i64 (j:Int))) X s j l lv nv ns:=
 ⟨by simpa[oG]using h.blk.set_ 1 (.int .i64 (j:Int)),h.toks.keep fun b hb _=>gF w ⟨X,1,none⟩ _ b (by show b≠X;omega),
  h.notes.keep fun b hb _=>gF w ⟨X,1,none⟩ _ b (by show b≠X;omega),h.apart,gN h.nfew D⟩
theorem Dq.row(h:Dq w X s i l lv nv ns){w2:World}{lv':Value}{l':List cz}(I:BD (X+1) w w2 lv lv' l'):Dq (w2.setCell ⟨X,2,none⟩ lv') X s i l' lv' nv ns:=by
 have q:w2.heap[X]? = w.heap[X]? :=I.bel.block X (by omega);have hb:aa w2 X 131 (oG s i lv nv):=q.trans h.blk;have x:ii (X+1) w2 nv ns:=by
  refine⟨h.notes.1,?_⟩;rcases h.notes.2 with y|⟨g,cap,cur,e,O,J,r⟩
  ·exact .inl y
  ·refine .inr ⟨g,cap,cur,e,O,?_,r⟩;(have D:nv.ownBlock=some g:=by rw[e];rfl);exact(I.keep g (h.notes.lt g D).2 (fun z=>h.apart g z D)).trans J
 refine⟨by simpa[oG]using hb.set_ 2 lv',I.own.keep fun b hb _=>gF w2 ⟨X,2,none⟩ _ b (by show b≠X;omega),
  x.keep fun b hb _=>gF w2 ⟨X,2,none⟩ _ b (by show b≠X;omega),fun g h1 h2=>?_,h.nfew⟩
 rcases I.at_ with e|⟨g',e,M⟩
 ·exact h.apart g (e▸h1) h2
 ·rw[h1]at e;injection e with e;have:=(h.notes.lt g h2).2;omega
theorem Dq.noteRow(h:Dq w X s i l lv nv ns){w2:World}{nv':Value}{ns':List cz}(I:BD (X+1) w w2 nv nv' ns')(J:ns'.length<=i):Dq (w2.setCell ⟨X,3,none⟩ nv') X s i l lv nv' ns':=by
 have x:w2.heap[X]? = w.heap[X]? :=I.bel.block X (by omega);have hb:aa w2 X 131 (oG s i lv nv):=x.trans h.blk;have y:ii (X+1) w2 lv l:=by
  refine⟨h.toks.1,?_⟩;rcases h.toks.2 with z|⟨g,cap,cur,e,q,M,r⟩
  ·exact .inl z
  ·refine .inr ⟨g,cap,cur,e,q,?_,r⟩;(have D:lv.ownBlock=some g:=by rw[e];rfl);exact(I.keep g (h.toks.lt g D).2 (fun e2=>h.apart g D e2)).trans M
 refine⟨by simpa[oG]using hb.set_ 3 nv',y.keep fun b hb _=>gF w2 ⟨X,3,none⟩ _ b (by show b≠X;omega),
  I.own.keep fun b hb _=>gF w2 ⟨X,3,none⟩ _ b (by show b≠X;omega),fun g h1 h2=>?_,J⟩
 rcases I.at_ with e|⟨g',e,O⟩
 ·exact h.apart g h1 (e▸h2)
 ·rw[h2]at e;injection e with e;have:=(h.toks.lt g h1).2;omega
theorem ij.below[NsC](h:ij w X s i l)(hb:Below w w w'):ij w' X s i l:=by obtain⟨lv,nv,D⟩:=h.out;exact⟨⟨lv,nv,D.below hb⟩,h.le,h.most,h.few⟩
theorem ij.keep[NsC](h:ij w X s i l)(D:∀b,X<=b->w'.heap[b]? = w.heap[b]?):ij w' X s i l:=by obtain⟨lv,nv,I⟩:=h.out;exact⟨⟨lv,nv,I.keep fun b hb _=>D b hb⟩,h.le,h.most,h.few⟩
theorem ij.lt[NsC](h:ij w X s i l):X<w.heap.size:=by obtain⟨lv,nv,D⟩:=h.out;exact D.blk.lt
theorem ij.set[NsC](h:ij w X s i l)(j:Nat)(D:i<=j)(I:j<=s.size):ij (w.setCell ⟨X,1,none⟩ (.int .i64 (j:Int))) X s j l:=by obtain⟨lv,nv,J⟩:=h.out;exact⟨⟨lv,nv,J.set j D⟩,I,h.most,h.few⟩
end
def sP[NsC](X:Nat)(s:ByteArray)(w:World)(i:Nat)(l:List cz)(v:Value)(e:Ending)(w':World):Prop:=
 e=.returned v/\ij w' X s i l/\Below X w w'
end
section
open Go.RowKit Go.Lib Go.Proofs
attribute [local go_sem ↓] Go.wp_at_zero Go.wp_at_succ
attribute [local go_sem] aK aL aM aZ a6 a7 a8
theorem oH(E:bC)(F:eQ)(hF:mC E F)(p:Int)(w:World)(s:St)(h:aH E w s)(gt:dS F p E.c s≠.out):
  Calls prog 262 #[E.R,p] w (ic E w (dS F p E.c s)):=by
 generalize hres:dS F p E.c s=res at *;have I:=hid hres;have gq:=hid gt;have gu:=h.lt;have x:=(au.refl h).alloc (.cells bg 41);clear hres gt;(go_enter func262,ntmps262);go_wp2_with fail;cases D:lH F E.c s with
 |out=>exact absurd I.out.symm (by rw[dS,D];exact gq.out)
 |fail q=>refine(rh E F hF _ s x.rd (by rw[D];exact nofun)).mono ?_;rw[D];rintro e w1⟨rfl,hf⟩;unfold ag;exact⟨rfl,af (by rw[<-I.out,dS,D];rfl) x.gr hf⟩
 | ok n s1=>
  have HE:Hid (et F p F.g [n] E.c s1=res):=hid (by rw[<-I.out,dS,D];rfl);refine(rh E F hF _ s x.rd (by rw[D];exact nofun)).mono ?_;rw[D];rintro e w1⟨⟨v,rfl,hv⟩,gi⟩;obtain⟨A,cp,rfl,hC⟩:=hv.toC;have gp:=(aa.new w 41 bg).grown gi.gr;have gz:=x.trans gi;have hc:=gp.lt;clear D I gi x;go_wp2_with fail;refine(aI _ _ _ _ _ ⟨_,_,_,rfl⟩).mono ?_;rintro e w2⟨rfl,J⟩;have g3:=(aa.new w1 41 (nv n A cp)).below J (by simp);have g6:=(gp.alloc _).below J (by simp;omega);have gy:=(gz.alloc _).step J;(have ho:w1.heap.size+1<=w2.heap.size:=by have:=J.size;simp at this;omega);have g8:eS (w.heap.size+1) (fun b=>b=w2.heap.size) w2 (.slice (some ⟨w1,0,none⟩) 1 1) [n]:=
   eS.one (S:=w.heap.size+1) g3 (by omega) rfl (hC.mono fun b hb _=>by simpa using hb) (gB _)
    (fun b _ hlt=>(J.block b (by simp;omega)).trans (gS w1 _ b hlt)) (fun b _ hb=>by omega) (by omega)
  clear J g3 gp gz hC hv;go_wp2_with fail;have g2:=aa.new w2 41 #[.int .i64 14,.string ⟨#[]⟩,.slice (some ⟨w1,0,none⟩) 1 1,.int .i64 p];have g5:=g6.alloc (.cells #[.int .i64 14,.string ⟨#[]⟩,.slice (some ⟨w1,0,none⟩) 1 1,.int .i64 p] 41);have gx:=gy.alloc (.cells #[.int .i64 14,.string ⟨#[]⟩,.slice (some ⟨w1,0,none⟩) 1 1,.int .i64 p] 41);have g7:=g8.kept (((ak.refl _ w2).alloc (.cells #[.int .i64 14,.string ⟨#[]⟩,.slice (some ⟨w1,0,none⟩) 1 1,.int .i64 p] 41)));generalize hL:w2.heap.size=L at *;(have hm:w.heap.size+1<L:=by omega);generalize w2.alloc (.cells #[.int .i64 14,.string ⟨#[]⟩,.slice (some ⟨w1,0,none⟩) 1 1,.int .i64 p] 41)=w3 at *;clear g8 g6 gy hL;go_loopg [12] F.g (fun g _ wr=>∃(acc:List Nd)(s':St)(u:Value),aa wr L 41 #[.int .i64 14,.string ⟨#[]⟩,u,.int .i64 p]/\eS (w.heap.size+1) (fun b=>b=L) wr u acc/\aa wr w.heap.size 41 bg/\acc.length+g<=1000001/\et F p g acc E.c s'=res/\au E s' w wr)
  case atStart=>exact⟨[n],s1,_,g2,g7,g5,by have:=hF.g;simp;omega,HE.out,gx⟩
  case round=>
   clear g2 g7 g5 gx HE;obtain⟨acc,z,u,hL,HO,hG,hn,hr,hM⟩:=hrel;have HR:=hid hr;clear hr;cases gk with
   |zero=>exact absurd HR.out.symm (by rw[et];exact gq.out)
   | succ g1=>
    cases hA:aR E.c z ⟨#[124]⟩with
    |false=>have HF:Hid (res=.ok (.mk 14 ⟨#[]⟩ acc p) z):=hid (by rw[<-HR.out,et];simp only[hA,gX,kK]);clear HR;go_wp2_with fail;refine(aW E z _ _ hM.rd hA).mono ?_;rintro e w4⟨rfl,ga⟩;have y:=hL.bl ga.bel;have gg:=hG.bl ga.bel;have M:=HO.kept (ak.of_below ga.bel (fun b _ hlt=>hlt));obtain⟨A4,c4,gh,_⟩:=M.form;subst gh;obtain⟨x0,x1,x2,x3,_,_,_,_⟩:=ah y;obtain⟨d0,d1,d2,d3,e0,e1,e2,e3⟩:=ah gg;clear hA;go_wp2_with fail;refine av HF.out (aq.of_slice M.values 14 ⟨#[]⟩ p) (hM.trans ga.moved) gg (gB _) gu ?_ rfl (by rfl) rfl;rintro b⟨hb,_⟩;constructor<;>omega
    | true=>
     have HE:=hid (show(lH F E.c (am z)).bind (fun t s1=>et F p g1 (acc++[t]) E.c s1)=res by rw[<-HR.out,et];simp only[hA,kS]);clear HR;go_wp2_with fail;refine(aS E z _ _ hM.rd hA).mono ?_;rintro e w4⟨rfl,gd⟩;have y:=hL.grown gd.gr;have gg:=hG.grown gd.gr;have M:=HO.grown gd.gr (by omega);have ge:=hM.trans gd;clear hA hL hG HO hM;obtain⟨A4,c4,gh,_⟩:=M.form;subst gh;obtain⟨x0,x1,x2,x3,y0,y1,y2,y3⟩:=ah y;have gl:=y.lt;cases D:lH F E.c (am z)with
     |out=>exact absurd HE.out.symm (by rw[D];exact gq.out)
     |fail q=>have HF:Hid (res=.fail q):=hid (by rw[<-HE.out,D];rfl);go_wp2_with fail;let SS:World->Prop:=fun w'=>w'.cell? ⟨L,2,none⟩=some (.slice A4 acc.length c4);have hj:SS w4.drew:=x2;(refine jS (S:=SS) (by kernel_rfl) hj ?_;intro gm;refine dF 0 gm ?_;refine dF 1 gm ?_;refine dF 2 gm ?_;refine yd 3 fun K hK=>?_;go_simp);refine(rh E F hF _ (am z) ge.drew.rd (by rw[D];exact nofun)).mono ?_;rw[D];rintro e w7⟨rfl,he⟩;unfold ag;exact⟨rfl,af HF.out ge.drew.gr he⟩
     | ok n2 s3=>
      have hl:Hid (et F p g1 (acc++[n2]) E.c s3=res):=hid (by rw[<-HE.out,D];rfl);have HC:=hid (fun W(hr:aH E W (am z))=>rh E F hF W (am z) hr (by rw[D];exact nofun));rw[D]at HC;clear HE D;go_wp2_with fail;(have gv:acc.length<=1000000:=by omega);(have gw:E.R<w.heap.size+1:=by omega);(have gs:w.heap.size+1<=w4.heap.size:=by omega);go_region_law (first
       |(refine lJ (by rfl) (.tmp 14) (.tmp 17) (by rfl) E s3 (w.heap.size+1) w4.heap.size (fun b=>b=L) w w5 (.slice A4 acc.length c4) acc n2 A5 c5 (by rfl) (by rfl) hk hh (Nat.le_succ _) gw gs ha (fun b hb=>by rw[hb];exact gl) (fun g hg=>(M.lt g hg).2) gv hi ?_;intro g c w6 gb;have g0:aa w6 L 41 #[.int .i64 14,.string ⟨#[]⟩,.slice A4 acc.length c4,.int .i64 p]:=(gb.old L gj (.inl rfl)).trans gn;obtain⟨v0,v1,v2,v3,f0,f1,f2,f3⟩:=ah g0)
       |(go_simp;(go_at_call 294);refine(HC.out _ ge.drew.rd).mono ?_;rintro e w5⟨⟨v,rfl,g9⟩,O⟩;obtain⟨A5,c5,rfl,hi⟩:=g9.toC;have gn:=y.drew.grown O.gr;have g4:=gg.drew.grown O.gr;have hk:=(M.kept ((ak.refl _ _).drew)).grown O.gr gw;have hh:=ge.drew.trans O;have ha:w4.heap.size<=w5.heap.size:=O.gr.size;have gj:=gn.lt;obtain⟨z0,z1,z2,z3,_,_,_,_⟩:=ah gn))
      (all_goals go_wp2_with fail);all_goals
       go_roundg g1
       case measure=>omega
       case rel=>
        refine⟨acc++[n2],s3,_,by simpa using g0.set_ 2 (.slice (some ⟨g,0,none⟩) (acc.length+1) c),?_,?_,by rw[gK];simp;omega,hl.out,?_⟩
        ·exact gb.own.kept ((ak.refl _ _).setCell (fun hX=>hX.2 rfl) _)
        ·exact aa.far (show aa w6 w.heap.size 41 bg from(gb.old w.heap.size (by have:=g4.lt;omega) (.inr (by omega))).trans g4) (p:=⟨L,2,none⟩) (by show w.heap.size≠L;omega) _
        ·exact gb.mov.own (p:=⟨L,2,none⟩) (by show w.heap.size<=L;omega) (by show E.R<L;omega) _
def Pt(n:Nd)(A:Option Addr)(cp:Nat):Array Value:=(nv n A cp)
theorem yH(E:bC)(F:eQ)(hF:mC E F)(p:Int)(w:World)(s:St)(h:aH E w s)(gg:fl F p E.c s≠.out):
  Calls prog 206 #[E.R,p] w (ic E w (fl F p E.c s)):=by
 generalize hres:fl F p E.c s=res at *;have M:=hid hres;have g1:=hid gg;have gh:=h.lt;have J:=(au.refl h).alloc (.cells bg 41);clear hres gg;(go_enter func206,ntmps206);go_wp2_with fail;cases hA:aR E.c s ⟨#[123]⟩with
 |false=>refine(dN E s _ _ J.rd hA).mono ?_;rintro e w1⟨rfl,gv⟩;unfold ag;exact⟨rfl,af (by rw[<-M.out,fl,need];simp[hA]) J.gr (ac _ gv)⟩
 | true=>
  have HE:=hid (show(dS F p E.c (am s)).bind (fun n s2=>(need ⟨#[125]⟩ E.c (dL E.c s2)).bind fun _ s3=>.ok n s3)=res by rw[<-M.out,fl,need];simp only[hA,kS,d5.bind_ok]);refine(cW E s _ _ J.rd hA).mono ?_;rintro e w1⟨rfl,ga⟩;have gm:=(aa.new w 41 bg).grown ga.gr;have I:=J.trans ga;have gs:=gm.lt;clear M hA J ga;go_wp2_with fail;cases z:dS F p E.c (am s)with
  |out=>exact absurd HE.out.symm (by rw[z];exact g1.out)
  |fail q=>refine(oH E F hF p w1 (am s) I.rd (by rw[z];exact nofun)).mono ?_;rw[z];rintro e w2⟨rfl,gt⟩;unfold ag;exact⟨rfl,af (by rw[<-HE.out,z];rfl) I.gr gt⟩
  |ok n s2=>
   have gd:=hid (show(need ⟨#[125]⟩ E.c (dL E.c s2)).bind (fun _ s3=>.ok n s3)=res by rw[<-HE.out,z];rfl);refine(oH E F hF p w1 (am s) I.rd (by rw[z];exact nofun)).mono ?_;rw[z];rintro e w2⟨⟨v,rfl,hv⟩,x⟩;obtain⟨A,cp,rfl,hC⟩:=hv.toC;have gl:=gm.grown x.gr;have gx:=I.trans x;have g3:=x.gr.size;have gq:=gl.lt;clear HE z I x;go_wp2_with fail;have gi:=aa.new w2 41 (Pt n A cp);have gk:=gl.alloc (.cells (Pt n A cp) 41);have gb:=gx.alloc (.cells (Pt n A cp) 41);have ge:=hv.kept ((ak.refl _ w2).alloc (.cells (Pt n A cp) 41));refine(fJ E s2 _ gb.rd).mono ?_;rintro e w4⟨rfl,D⟩;have gz:=gi.grown D.gr;have g0:=gk.grown D.gr;have gp:=ge.kept (ak.of_grown D.gr (fun g e hX=>by injection e with e;subst e;omega));have y:=gb.trans D;(have g2:w2.heap.size+1<=w4.heap.size:=by have:=D.gr.size;simp at this;omega);clear gi gk ge gb D hv hC;go_wp2_with fail;cases hD:aR E.c (dL E.c s2) ⟨#[125]⟩with
   |false=>refine(dN E (dL E.c s2) _ _ y.rd hD).mono ?_;rintro e w5⟨rfl,gu⟩;unfold ag;exact⟨rfl,af (by rw[<-gd.out,need];simp[hD]) y.gr (ac _ gu)⟩
   |true=>have HF:=hid (show res=.ok n (am (dL E.c s2))by rw[<-gd.out,need];simp[hD]);refine(cW E (dL E.c s2) _ _ y.rd hD).mono ?_;rintro e w5⟨rfl,O⟩;have gy:=gz.grown O.gr;have gj:=g0.grown O.gr;have gn:=gp.kept (ak.of_grown O.gr (fun g e hX=>by injection e with e;subst e;omega));have gw:=y.trans O;obtain⟨x0,x1,x2,x3,_,_,_,_⟩:=ah gy;obtain⟨d0,d1,d2,d3,e0,e1,e2,e3⟩:=ah gj;clear hD gd;go_wp2_with fail;refine av HF.out gn gw gj (gB _) gh ?_ rfl (by rfl) rfl;intro b hb;constructor<;>omega
theorem uq(F:eQ)(p:Int)(c:Cx):∀(g:Nat)(acc:List Nd)(s:St)(n:Nd)(s':St),1<=acc.length->(∀t∈acc,t.kids.length=1)->et F p g acc c s=.ok n s'->1<=n.kids.length/\∀t∈n.kids,t.kids.length=1
 |0,acc,s,n,s',_,_,h=>by simp[et]at h
 | g+1,acc,s,n,s',O,J,h=>by
  rw[et]at h;dsimp only at h;split at h
  ·cases D:lH F c (am s)with
   |out=>rw[D]at h;simp at h
   |fail q=>rw[D]at h;simp at h
   | ok t s1=>
    rw[D]at h;simp only[d5.bind_ok]at h;have M:t.kids.length=1:=by
     unfold lH at D;split at D
     ·cases hT:F.typ c (am (am s))with
      |out=>rw[hT]at D;simp at D
      |fail q=>rw[hT]at D;simp at D
      |ok k s2=>rw[hT]at D;simp at D;rw[<-D.1];rfl
     ·cases hT:F.typ c (am s)with
      |out=>rw[hT]at D;simp at D
      |fail q=>rw[hT]at D;simp at D
      |ok k s2=>rw[hT]at D;simp at D;rw[<-D.1];rfl
    exact uq F p c g (acc++[t]) s1 n s' (by simp) (by
     intro u I;rcases List.mem_append.1 I with I|I
     ·exact J u I
     ·rw[List.mem_singleton.1 I];exact M) h
  ·simp only[d5.ok.injEq]at h;rw[<-h.1];exact⟨O,J⟩
theorem BF(F:eQ)(p:Int)(c:Cx)(s:St)(n:Nd)(s':St)(h:dS F p c s=.ok n s'):1<=n.kids.length/\∀t∈n.kids,t.kids.length=1:=by
 unfold dS at h;cases D:lH F c s with
 |out=>rw[D]at h;simp at h
 |fail q=>rw[D]at h;simp at h
 | ok t s1=>
  rw[D]at h;simp only[d5.bind_ok]at h;refine uq F p c F.g [t] s1 n s' (by simp) (fun u hu=>?_) h;rw[List.mem_singleton.1 hu];unfold lH at D;split at D
  ·cases hT:F.typ c (am s)with
   |out=>rw[hT]at D;simp at D
   |fail q=>rw[hT]at D;simp at D
   |ok k s2=>rw[hT]at D;simp at D;rw[<-D.1];rfl
  ·cases hT:F.typ c s with
   |out=>rw[hT]at D;simp at D
   |fail q=>rw[hT]at D;simp at D
   |ok k s2=>rw[hT]at D;simp at D;rw[<-D.1];rfl
theorem oI{E:bC}{w wk:World}{res:d5 Nd}{n:Nd}{s:St}{X:Nat->Prop}{a0 a1 a2 a3 z0 z1 z2 z3:Value}{g q:Nat}{fn:Func}{a:Act}(D o2:Obj)(h:res=.ok n s)
  (M:aq X wk (.agg #[a0,a1,a2,a3]) n)(x:au E s w wk)(hb:aa wk g 41 #[z0,z1,z2,z3])(y:w.heap.size<=g)(z:E.R<g)(J:∀b,X b->w.heap.size<=b/\b≠g)
  (I:fn.results = #[.cell q 41])(O:a.tmps.getD q undef=.pointer (some ⟨g,0,none⟩))(hd:a.defers=[]):
  bodyPost prog fn (ic E w res) .ret a (((cM wk g a0 a1 a2 a3).alloc D).alloc o2):=by refine jD (dx I _ O (((cJ hb a0 a1 a2 a3).alloc D).alloc o2)) hd ?_;rw[h];exact⟨⟨_,rfl,(M.kept (((cA (fun b hb=>(J b hb).2) _ _ _ _).alloc D).alloc o2)).mono fun b hb _=>(J b hb).1⟩,((dI x y z _ _ _ _).alloc D).alloc o2⟩
theorem cS.kid{X:Nat->Prop}{w:World}{A0:Option Addr}{n c:Nat}{l:List Nd}(h:cS X w (.slice A0 n c) l)(i:Nat)(x:i<l.length):
  ∃ b off A cp,A0=some ⟨b,off,none⟩/\X b/\b<w.heap.size/\w.cell? ⟨b,off+i*4,none⟩=some (.int .i64 l[i].kind)/\w.cell? ⟨b,off+i*4+1,none⟩=some (.string l[i].text) /\
    w.cell? ⟨b,off+i*4+2,none⟩=some (.slice A l[i].kids.length cp)/\w.cell? ⟨b,off+i*4+3,none⟩=some (.int .i64 l[i].pos) /\
    aq X w (.agg #[.int .i64 l[i].kind,.string l[i].text,.slice A l[i].kids.length cp,.int .i64 l[i].pos]) l[i]:=by obtain⟨A1,c1,xs,e,_,M,O⟩:=h;injection e with e1 e2 e3;subst e1 e2 e3;obtain⟨b,off,eA,z,y⟩:=M.2 (by omega);obtain⟨ys,hC,I⟩:=O.get i x;obtain⟨A,cp,zs,e,h1,h2,h3⟩:=hC.toV;subst e;have g:=fun j(q:j<4)v(J:[Value.int .i64 l[i].kind,.string l[i].text,.slice A l[i].kids.length cp,.int .i64 l[i].pos][j]? = some v)=>y (i*4+j) v (by rw[I j q];exact J);have D:=g 0 (by omega) _ rfl;exact⟨b,off,A,cp,eA,z,gU w _ D,D,by simpa[Nat.add_assoc]using g 1 (by omega) _ rfl,by simpa[Nat.add_assoc]using g 2 (by omega) _ rfl,by simpa[Nat.add_assoc]using g 3 (by omega) _ rfl,A,cp,zs,rfl,h1,h2,h3⟩
theorem aq.kidsV{X:Nat->Prop}{w:World}{k t a:Value}{A:Option Addr}{m c:Nat}{n:Nd}(h:aq X w (.agg #[k,t,.slice A m c,a]) n):cS X w (.slice A m c) n.kids:=by obtain⟨M,c1,xs,e,J,I,D⟩:=h;injection e with e;injection e with e;simp only[vk,xu]at e;obtain⟨_,_,e,_⟩:=e;exact⟨M,c1,xs,e,J,I,D⟩
theorem nZ(E:bC)(F:eQ)(hF:mC E F):dp E (dv F) 198:=by
 intro w s h hno;generalize I:dv F E.c s=res at *;have z:=hid I;have gm:=hid hno;have J:=h.lt;clear I hno;(go_enter func198,ntmps198);go_wp2_with fail;refine(bh E s _ (h.alloc _)).mono ?_;unfold eR;rintro e w1⟨rfl,D⟩;have ga:=((bX.refl h).alloc _).step D;have ge:=(aa.new w 41 bg).below D (by simp);have gt:=ge.lt;clear D;go_wp2_with fail;cases hA:aR E.c s ⟨#[105,110,116,101,114,102,97,99,101]⟩with
 |true=>
  have HE:Hid (fl F (ar E.c s) E.c (am s)=res):=hid (by rw[<-z.out,dv,gL hA]);refine(aS E s _ w1 ga.rd hA).mono ?_;rintro e w2⟨rfl,gj⟩;have gl:=ge.grown gj.gr;have M:=ga.moved.trans gj;have gz:=gj.gr.size;clear z hA ge ga;go_wp2_with fail;refine(yH E F hF _ w2 (am s) gj.rd (by rw[show fl F (aj E.c s.at_).pos E.c (am s)=res from HE.out];exact gm.out)).mono ?_;rw[show fl F (aj E.c s.at_).pos E.c (am s)=res from HE.out];cases I:res with
  |out=>exact absurd I gm.out
  |fail p=>rintro e w5⟨rfl,g1⟩;unfold ag;exact⟨rfl,af rfl M.gr g1⟩
  |ok n s2=>rintro e w5⟨⟨v,rfl,hv⟩,gu⟩;obtain⟨A,cp,rfl,hC⟩:=hv.toC;have gx:=gl.grown gu.gr;obtain⟨d0,d1,d2,d3,e0,e1,e2,e3⟩:=ah gx;have HF:=hid I;clear HE I gm;go_wp2_with fail;refine av HF.out hv (M.trans gu) gx (gB _) J ?_ rfl (by rfl) rfl;intro b hb;constructor<;>omega
 | false=>
  have HE:=hid (show(dS F (ar E.c s) E.c s).bind (fun n s1=>.ok ((rb n).getD n) s1)=res by rw[<-z.out,dv];simp only[hA,gX,kK]);refine(aW E s _ w1 ga.rd hA).mono ?_;rintro e w2⟨rfl,gh⟩;have gl:=ge.below gh.bel gt;have M:=ga.moved.trans gh.moved;have gz:=gh.bel.size;clear z hA ge ga gh;go_wp2_with fail;cases hP:dS F (ar E.c s) E.c s with
  |out=>exact absurd HE.out.symm (by rw[hP];exact gm.out)
  |fail q=>refine(oH E F hF _ w2 s M.rd (by rw[show dS F (aj E.c s.at_).pos E.c s=_ from hP];exact nofun)).mono ?_;rw[show dS F (aj E.c s.at_).pos E.c s=_ from hP];rintro e w3⟨rfl,g2⟩;unfold ag;exact⟨rfl,af (by rw[<-HE.out,hP];rfl) M.gr g2⟩
  | ok n s1=>
   have HF:Hid (res=.ok ((rb n).getD n) s1):=hid (by rw[<-HE.out,hP];rfl);obtain⟨gw,gv⟩:=BF F _ _ _ _ _ hP;refine(oH E F hF _ w2 s M.rd (by rw[show dS F (aj E.c s.at_).pos E.c s=_ from hP];exact nofun)).mono ?_;rw[show dS F (aj E.c s.at_).pos E.c s=_ from hP];rintro e w3⟨⟨v,rfl,hv⟩,gi⟩;obtain⟨A,cp,rfl,hC⟩:=hv.toC;have gd:=gl.grown gi.gr;have gk:=M.trans gi;have g8:=gi.gr.size;have g0:=gd.lt;clear hP HE gi gl M;obtain⟨nk,nt,nl,np⟩:=n;rcases nl with _|⟨tn,rest⟩
   ·simp at gw
   have gs:=gv tn (by simp);obtain⟨tk,tt,tl,tp⟩:=tn;rcases tl with _|⟨kn,gy⟩
   ·simp at gs
   (obtain rfl:gy=[]:=by simpa using gs);clear gw gv gs;have HV:=hid hv;obtain⟨b,off,A1,c1,eA,he,ha,k0,k1,k2,k3,gq⟩:=hv.kidsV.kid 0 (by simp);obtain⟨b',off',A2,c2,eA',g7,g6,j0,j1,j2,j3,gp⟩:=gq.kidsV.kid 0 (by simp);simp only[Nd.kids_mk,Nd.kind_mk,Nd.text_mk,Nd.pos_mk,vB,vC,Nat.add_zero]at eA eA' k0 k1 k2 k3 j0 j1 j2 j3 gp gq;subst eA eA';have g4:=hid gp;have gn:=hid (show(rb (.mk nk nt (.mk tk tt [kn] tp::rest) np)).getD (.mk nk nt (.mk tk tt [kn] tp::rest) np)=if rest.length+1=1/\tt=(⟨#[]⟩:BA)/\kn.kind=10 then kn else .mk nk nt (.mk tk tt [kn] tp::rest) np by
    unfold rb;cases rest with
    |nil=>
     simp only[Nd.kids_mk,Nd.text_mk,jT,kL,true_and];by_cases hc:tt=(⟨#[]⟩:BA)/\kn.kind=10
     ·simp only[hc,and_self,kS,Option.getD_some]
     ·simp only[hc,kK,xh]
    |cons x r=>simp)
   clear hv gq gp hC;simp only[Nd.kids_mk,Nd.kind_mk,Nd.text_mk,Nd.pos_mk,List.length_cons,jT,kL]at k2 |-;(have g5:b≠w3.heap.size:=by omega);(have g3:b'≠w3.heap.size:=by omega);(have hf:w.heap.size≠w3.heap.size:=by omega);(have g9:(0:Int)<((rest.length+1:Nat):Int):=by omega);obtain⟨d0,d1,d2,d3,e0,e1,e2,e3⟩:=ah gd;generalize hmm:rest.length+1=m at *;by_cases D:m=1
   ·by_cases O:tt=(⟨#[]⟩:BA)
    ·(have t2:tt.toList.isEmpty=true:=by rw[aF];simp[O]);by_cases gb:kn.kind=10
     ·have y:Hid (res=.ok kn s1):=hid (by rw[HF.out,gn.out,gL ⟨D,O,gb⟩]);(have t3:(kn.kind==10)=true:=by simp[gb]);(have t1:((m:Int)==1)=true:=by rw[D];rfl);clear D O gb hmm;go_wp2_with fail;refine oI _ _ y.out g4.out gk gd (gB _) J ?_ rfl (by rfl) rfl;intro b hb;constructor<;>omega
     ·have y:Hid (res=.ok (.mk nk nt (.mk tk tt [kn] tp::rest) np) s1):=hid (by rw[HF.out,gn.out,gE (fun h=>gb h.2.2)]);(have t3:(kn.kind==10)=false:=by simp[gb]);(have t1:((m:Int)==1)=true:=by rw[D];rfl);(have gg:Hid (aq (fun b=>w2.heap.size<=b) w3 (.agg #[.int .i64 nk,.string nt,.slice (some ⟨b,off,none⟩) m cp,.int .i64 np]) (.mk nk nt (.mk tk tt [kn] tp::rest) np)):=by have:=HV.out;simp only[Nd.kids_mk,Nd.kind_mk,Nd.text_mk,Nd.pos_mk,List.length_cons]at this;rw[hmm]at this;exact hid this);clear D O gb hmm;go_wp2_with fail;refine oI _ _ y.out gg.out gk gd (gB _) J ?_ rfl (by rfl) rfl;intro b hb;constructor<;>omega
    ·have y:Hid (res=.ok (.mk nk nt (.mk tk tt [kn] tp::rest) np) s1):=hid (by rw[HF.out,gn.out,gE (fun h=>O h.2.1)]);(have t2:tt.toList.isEmpty=false:=by rw[aF];simp[O]);(have t1:((m:Int)==1)=true:=by rw[D];rfl);(have gg:Hid (aq (fun b=>w2.heap.size<=b) w3 (.agg #[.int .i64 nk,.string nt,.slice (some ⟨b,off,none⟩) m cp,.int .i64 np]) (.mk nk nt (.mk tk tt [kn] tp::rest) np)):=by have:=HV.out;simp only[Nd.kids_mk,Nd.kind_mk,Nd.text_mk,Nd.pos_mk,List.length_cons]at this;rw[hmm]at this;exact hid this);clear D O hmm;go_wp2_with fail;refine oI _ _ y.out gg.out gk gd (gB _) J ?_ rfl (by rfl) rfl;intro b hb;constructor<;>omega
   ·have y:Hid (res=.ok (.mk nk nt (.mk tk tt [kn] tp::rest) np) s1):=hid (by rw[HF.out,gn.out,gE (fun h=>D h.1)]);(have t1:((m:Int)==1)=false:=by rw[gD];omega);(have gg:Hid (aq (fun b=>w2.heap.size<=b) w3 (.agg #[.int .i64 nk,.string nt,.slice (some ⟨b,off,none⟩) m cp,.int .i64 np]) (.mk nk nt (.mk tk tt [kn] tp::rest) np)):=by have:=HV.out;simp only[Nd.kids_mk,Nd.kind_mk,Nd.text_mk,Nd.pos_mk,List.length_cons]at this;rw[hmm]at this;exact hid this);clear D hmm;go_wp2_with fail;refine oI _ _ y.out gg.out gk gd (gB _) J ?_ rfl (by rfl) rfl;intro b hb;constructor<;>omega
theorem BU(a:Array Value)(w:World):(callFunc 197 a).run prog w=.ok (.enter 197 a) w:=by kernel_rfl
theorem lZ(E:bC)(F:eQ)(hF:mC E F):dp E (d6 F) 141:=by
 intro w s h hno;generalize hres:d6 F E.c s=res at *;have D:=hid hres;have hl:=hid hno;have hn:=h.lt;have hg:=h.most;clear hres hno;(go_enter func141,ntmps141);go_wp2_with fail;have g9:aa ((w.alloc (.cells #[E.R] 112)).alloc (.cells bg 41)) w.heap.size 112 #[E.R]:=(aa.new w _ _).alloc _;(have g6:aa ((w.alloc (.cells #[E.R] 112)).alloc (.cells bg 41)) (w.heap.size+1) 41 bg:=by have:=aa.new (w.alloc (.cells #[E.R] 112)) 41 bg;simpa using this);refine(bh E s _ ((h.alloc _).alloc _)).mono ?_;unfold eR;rintro e w1⟨rfl,ga⟩;have gw:=(((bX.refl h).alloc _).alloc _).step ga;have gt:=g6.below ga (by simp);have g8:=g9.below ga (by simp;omega);have gm:=gt.lt;clear ga g6 g9;go_wp2_with fail;refine(aI _ _ _ _ _ ⟨_,_,_,rfl⟩).mono ?_;rintro e w2⟨rfl,y⟩;have gy:=gw.moved.step y;have g5:=gt.below y gm;have gi:=g8.below y (by omega);have hu:=y.size;have b2:=gi.cell 0;simp at b2;have gn:=gi.lt;have hf:=ve gn;clear y gt g8 gw;go_wp2_with fail;have g1:=aa.new w2 41 #[.int .i64 6,.string ⟨#[]⟩,.slice none 0 0,.int .i64 (ar E.c s)];have g4:=g5.alloc (.cells #[.int .i64 6,.string ⟨#[]⟩,.slice none 0 0,.int .i64 (ar E.c s)] 41);have g7:=gi.alloc (.cells #[.int .i64 6,.string ⟨#[]⟩,.slice none 0 0,.int .i64 (ar E.c s)] 41);have gp:=gy.alloc (.cells #[.int .i64 6,.string ⟨#[]⟩,.slice none 0 0,.int .i64 (ar E.c s)] 41);refine(bL E s _ _ gp.rd).mono ?_;rintro e w4⟨rfl,M⟩;(have ht:w2.heap.size+1<=w4.heap.size:=by have:=M.size;simp at this;omega);have gs:=g1.below M (by simp);have gg:=g4.below M (by simp;omega);have gv:=g7.below M (by simp;omega);have gd:=gp.step M;have b4:=gv.cell 0;simp at b4;clear g1 g4 g7 gp M g5 gi gy b2;cases hI:aR E.c s ⟨#[91]⟩with
 |false=>have HF:Hid (res=.ok (.mk 6 ⟨#[]⟩ [] 0) s):=hid (by rw[<-D.out,d6];simp[hI]);obtain⟨x0,x1,x2,x3,y0,y1,y2,y3⟩:=ah gs;obtain⟨d0,d1,d2,d3,e0,e1,e2,e3⟩:=ah gg;(have gl:w2.heap.size≠w.heap.size+1:=by omega);clear D;go_wp2_with fail;refine av (X:=fun _=>False) HF.out (aq.leaf _ _ _) (gd.own (p:=⟨w2,3,none⟩) (by show w.heap.size<=w2.heap.size;omega) (by show E.R<w2.heap.size;omega) _) (gg.far (p:=⟨w2,3,none⟩) (by show w.heap.size+1≠w2.heap.size;omega) _) (by omega) (by omega) ?_ rfl (by rfl) rfl;exact fun _ h=>h.elim
 | true=>
  go_wp2_with fail;refine(oF E s _ gd.rd).mono ?_;rintro e w5⟨rfl,I⟩;have gq:=gs.below I.bel (by omega);have ge:=gg.below I.bel (by omega);have gu:=gv.below I.bel (by omega);have O:=gd.trans I.moved;have hs:=I.bel.size;clear gs gg gv gd I b4;cases hJ:dG E.c s with
  |true=>have HF:Hid (res=.ok (.mk 6 ⟨#[]⟩ [] 0) s):=hid (by rw[<-D.out,d6];simp[hI,hJ]);obtain⟨x0,x1,x2,x3,y0,y1,y2,y3⟩:=ah gq;obtain⟨d0,d1,d2,d3,e0,e1,e2,e3⟩:=ah ge;(have gl:w2.heap.size≠w.heap.size+1:=by omega);clear D;go_wp2_with fail;refine av (X:=fun _=>False) HF.out (aq.leaf _ _ _) (O.own (p:=⟨w2,3,none⟩) (by show w.heap.size<=w2.heap.size;omega) (by show E.R<w2.heap.size;omega) _) (ge.far (p:=⟨w2,3,none⟩) (by show w.heap.size+1≠w2.heap.size;omega) _) (by omega) (by omega) ?_ rfl (by rfl) rfl;exact fun _ h=>h.elim
  | false=>
   have gk:=hid (show(aU (de F) ⟨#[93]⟩ F.g [] E.c (am s)).bind (fun l s1=>if l.length=0 then .fail (ar E.c s1)else .ok (.mk 6 ⟨#[]⟩ l (ar E.c s)) s1)=res by rw[<-D.out,d6];simp[hI,hJ]);have hp:=pv O.rd hI;obtain⟨c0,c1,c2,c3,c4,f0⟩:=O.rd.cells;have f1:=f0 1;have hh:=O.rd.lt;have b5:=gu.cell 0;simp at b5;(have x:w.heap.size≠E.R:=by omega);clear D hI hJ f0;go_wp2_with fail;have z:=O.setAt (s.at_+1) (by omega);have g0:=gq.far (p:=⟨E.R,1,none⟩) (by show w2.heap.size≠E.R;omega) (.int .i64 ((s.at_+1:Nat):Int));have g3:=ge.far (p:=⟨E.R,1,none⟩) (by show w.heap.size+1≠E.R;omega) (.int .i64 ((s.at_+1:Nat):Int));have gh:=gu.far (p:=⟨E.R,1,none⟩) (by show w.heap.size≠E.R;omega) (.int .i64 ((s.at_+1:Nat):Int));(have hr:w5.heap.size<=(w5.setCell ⟨E.R,1,none⟩ (.int .i64 ((s.at_+1:Nat):Int))).heap.size:=by simp);clear gq ge gu O c0 c1 c2 c3 c4 f1 b5;cases hP:aU (de F) ⟨#[93]⟩ F.g [] E.c (am s)with
   |out=>exact absurd gk.out.symm (by rw[hP];exact hl.out)
   |fail q=>refine(lk E 197 #[] #[w] (de F) ⟨#[93]⟩ F.g (am s) _ z.rd BU (uj E F (nZ E F hF) w.heap.size _ gh x) (by rw[hP];exact nofun) hF.g).mono ?_;rw[hP];rintro e w7⟨rfl,hi⟩;unfold ag;exact⟨rfl,af (by rw[<-gk.out,hP];rfl) z.gr hi⟩
   | ok l s2=>
    have gj:=hid (show(if l.length=0 then .fail (ar E.c s2)else .ok (.mk 6 ⟨#[]⟩ l (ar E.c s)) s2)=res by rw[<-gk.out,hP];rfl);refine(lk E 197 #[] #[w] (de F) ⟨#[93]⟩ F.g (am s) _ z.rd BU (uj E F (nZ E F hF) w.heap.size _ gh x) (by rw[hP];exact nofun) hF.g).mono ?_;rw[hP];rintro e w7⟨⟨v,rfl,hv⟩,J⟩;have gz:=g0.grown J.gr;have g2:=g3.grown J.gr;have hk:=gh.grown J.gr;have gx:=z.trans J;have hq:=J.gr.size;have hc:=hv.mono (Y:=fun b=>w2.heap.size+1<=b) (fun b hb _=>by omega);obtain⟨A,cp,xs,rfl,_,_,_⟩:=hv;obtain⟨x0,x1,x2,x3,y0,y1,y2,y3⟩:=ah gz;have ho:=gz.lt;have b7:=hk.cell 0;simp at b7;(have he:w.heap.size≠w2.heap.size:=by omega);clear gk hP g0 g3 gh z J;by_cases hz:l.length=0
    ·have HF:=hid (show res=.fail (ar E.c s2)by rw[<-gj.out,gL hz]);(have ha:((l.length:Int)==0)=true:=by rw[hz];rfl);clear gj hz;go_wp2_with fail;have gb:=gx.own (p:=⟨w2,2,none⟩) (by show w.heap.size<=w2.heap.size;omega) (by show E.R<w2.heap.size;omega) (.slice A l.length cp);refine(dh E s2 _ gb.rd).mono ?_;rintro e w9⟨rfl,hj⟩;unfold ag;exact⟨rfl,af HF.out gb.gr (ac _ hj)⟩
    ·have HF:Hid (res=.ok (.mk 6 ⟨#[]⟩ l (ar E.c s)) s2):=hid (by rw[<-gj.out,gE hz]);(have ha:((l.length:Int)==0)=false:=by rw[gD];omega);obtain⟨d0,d1,d2,d3,e0,e1,e2,e3⟩:=ah g2;(have hm:w.heap.size+1≠w2.heap.size:=by omega);clear gj hz;go_wp2_with fail;have gb:=gx.own (p:=⟨w2,2,none⟩) (by show w.heap.size<=w2.heap.size;omega) (by show E.R<w2.heap.size;omega) (.slice A l.length cp);refine av (X:=fun b=>w2.heap.size+1<=b) HF.out ?_ gb (g2.far (p:=⟨w2,2,none⟩) (by show w.heap.size+1≠w2.heap.size;omega) (.slice A l.length cp)) (by omega) (by omega) ?_ rfl (by rfl) rfl
     ·exact(aq.of_slice hc 6 ⟨#[]⟩ (ar E.c s)).kept ((ak.refl _ _).setCell (fun hX=>by simp at hX;omega) _)
     ·intro b hb;constructor<;>omega
end
end Go.Proofs.YtcoiialmdncpfaaGreatDoor
