/-
  Parts of the proof: Smem Rcons Rloop Tkit. By an AI agent.
-/
import Derived.Test.YtiebcdeafofgdaaGreatDoorJ06
import Derived.Test.YtiebcdeafofgdaaGreatDoorJ01
import Derived.Deep.RegionLaw
import Derived.Deep.DeepCutAuto
open Go.Proofs.Tryz
set_option maxRecDepth 100000
set_option maxHeartbeats 8000000
namespace Go.Proofs.YtiebcdeafofgdaaGreatDoor
section
open Go.RowKit Go.Lib Go.Proofs
attribute [local go_sem ↓] Go.wp_at_zero Go.wp_at_succ
theorem kJ:type_of% @List.flatMap_append:=@List.flatMap_append
theorem qj:type_of% @Go.results_none:=@Go.results_none
theorem vn:type_of% @Go.World.ownsRow.alloc:=@Go.World.ownsRow.alloc
theorem vo:type_of% @Go.World.ownsRow.lt:=@Go.World.ownsRow.lt
theorem Ox:(prog.info? 43).map (fun i=>(i.zero,i.size,i.bytes))=some (some (.agg #[.int .i64 0,.string ⟨#[]⟩,.int .i64 0]),3,32):=by kernel_rfl
theorem IS(l:List cO):∀u∈l.flatMap ng,u.oneCell'=true:=by intro u hu;obtain⟨x,_,D⟩:=List.mem_flatMap.1 hu;unfold ng at D;simp only[qS,qJ,vE]at D;rcases D with rfl|rfl|rfl<;>rfl
def i7(B:Nat)(w:World)(v:Value)(l:List cO):Prop:=w.ownsRow B 43 3 v l.length (l.flatMap ng)
section
variable {B:Nat} {w w':World} {v:Value} {l:List cO}
theorem i7.nil(B:Nat)(w:World):i7 B w (.slice none 0 0) []:=vc _ _ _ _
theorem i7.keep(h:i7 B w v l)(M:∀b,B<=b->b<w.heap.size->w'.heap[b]? = w.heap[b]?):i7 B w' v l:=by
 refine⟨h.1,?_⟩;rcases h.2 with N|⟨g,cap,cur,e,J,I,r⟩
 ·exact .inl N
 ·refine .inr ⟨g,cap,cur,e,J,?_,r⟩;have D:g<w.heap.size:=by
   rcases kN g w.heap.size with D|hge
   ·exact D
   ·rw[kO hge]at I;cases I
  exact(M g J D).trans I
theorem i7.below(h:i7 B w v l)(hb:Below w w w'):i7 B w' v l:=h.keep fun b _ hlt=>hb.block b hlt
theorem i7.lt(h:i7 B w v l):∀g,v.ownBlock=some g->B<=g/\g<w.heap.size:=fun g hg=>vo h g hg
theorem i7.form(h:i7 B w v l):∃A c,v=.slice A l.length c/\l.length<=c:=by
 rcases h.2 with⟨rfl,I⟩|⟨g,cap,cur,rfl,_,_,D,_⟩
 ·exact⟨none,0,by rw[I],by omega⟩
 ·exact⟨_,cap,rfl,D⟩
end
structure BH(B:Nat)(w1 w2:World)(u v':Value)(l':List cO):Prop where
 own:i7 B w2 v' l'
 bel:Below B w1 w2
 keep:∀b,b<w1.heap.size->u.ownBlock≠some b->w2.heap[b]? = w1.heap[b]?
 at_:v'.ownBlock=u.ownBlock\/∃g,v'.ownBlock=some g/\w1.heap.size<=g
theorem BI{o:Oper}{a:Act}{K:Act->World->Prop}{Q:Exit->Act->World->Prop}(s x:Operand)
  (ho:o.op=.call { callee:=.builtin .append,args:=#[s,x],argTypes:=#[38,38] })
  (B:Nat)(w1:World)(u:Value)(l:List cO)(t:cO)(hs:a.eval s=u)(S:Nat)(hx:a.eval x=.slice (some ⟨S,0,none⟩) 1 1)(hS:w1.heap.size=S)
  (U:i7 B w1 u l)(hB:B<=w1.heap.size)(hl:l.length<=1000000)
  (h:∀g c w2,BH B w1 w2 u (.slice (some ⟨g,0,none⟩) (l.length+1) c) (l++[t])->K (a.put o.dst (.slice (some ⟨g,0,none⟩) (l.length+1) c)) w2):
  o.wp prog a (w1.alloc (.cells #[t.kind,t.text,t.pos] 43)) K Q:=by
 subst hS;obtain⟨i0,hi,M,J,I⟩:=qO Ox;refine vx _ s x 38 ho B 43 i0 _ 3 32 underlying38 hi M J I rfl (by omega) u l.length _ hs (vn U _) ⟨w1,0,none⟩ 1 1 [.int .i64 t.kind,.string t.text,.int .i64 t.pos] hx rfl
  (qz (cs:=#[t.kind,t.text,t.pos]) (qu _ _)) (IS [t]) (by omega) (by unfold maxLen;omega) (by omega) (by rw[jL];omega) _ rfl ?_
 intro g c w2 hown1 D N _;(have e:(l++[t]).flatMap ng=l.flatMap ng++[.int .i64 t.kind,.string t.text,.int .i64 t.pos]:=by rw[kJ];rfl);have O:∀b,b<w1.heap.size->u.ownBlock≠some b->w2.heap[b]? = w1.heap[b]? :=fun b hb hu=>
  (D.block b (by rw[jL];omega) (fun e=>hu e.symm)).trans (jF w1 _ b hb)
 (have hb:Below B w1 w2:=by have h1:=(gG B w1).alloc hB (.cells #[t.kind,t.text,t.pos] 43);exact h1.trans ⟨D.os,D.tape,D.output,D.size,fun k O=>D.block k (by rw[jL];omega) (fun e=>by have:=(U.lt k e.symm).1;omega)⟩);refine h g c w2 ⟨?_,hb,O,?_⟩
 ·unfold i7;rw[e,gL];exact hown1
 ·rcases N with e|e
  ·exact .inl e.symm
  ·exact .inr ⟨g,rfl,by rw[e,jL];omega⟩
theorem mh{ops:Array Oper}{o:Oper}{a:Act}{K:Act->World->Prop}{Q:Exit->Act->World->Prop}{D:Prop}(I:o.guard=none)(s x:Operand)
  (N:o.op=.call { callee:=.builtin .append,args:=#[s,x],argTypes:=#[38,38] })
  (B:Nat)(w1:World)(u:Value)(l:List cO)(t:cO)(hs:a.eval s=u)(S:Nat)(J:a.eval x=.slice (some ⟨S,0,none⟩) 1 1)(U:w1.heap.size=S)
  (hO:i7 B w1 u l)(hB:B<=w1.heap.size)(O:l.length<=1000000)
  (h:∀g c w2,BH B w1 w2 u (.slice (some ⟨g,0,none⟩) (l.length+1) c) (l++[t])->K (a.put o.dst (.slice (some ⟨g,0,none⟩) (l.length+1) c)) w2):
  if Region.wanted o (yielded ops a.tmps)=true then Oper.wp prog o a (w1.alloc (.cells #[t.kind,t.text,t.pos] 43)) K Q else D:=by(have M:Region.wanted o (yielded ops a.tmps)=true:=by simp[Region.wanted,I]);rw[gF M];exact BI s x N B w1 u l t hs S J U hO hB O h
theorem Al{ops:Array Oper}{rest:List Oper}{o:Oper}{a:Act}{Q:Exit->Act->World->Prop}(D:o.guard=none)(s x:Operand)
  (J:o.op=.call { callee:=.builtin .append,args:=#[s,x],argTypes:=#[38,38] })
  (B:Nat)(w1:World)(u:Value)(l:List cO)(t:cO)(hs:a.eval s=u)(S:Nat)(I:a.eval x=.slice (some ⟨S,0,none⟩) 1 1)(N:w1.heap.size=S)
  (O:i7 B w1 u l)(hB:B<=w1.heap.size)(M:l.length<=1000000)
  (h:∀g c w2,BH B w1 w2 u (.slice (some ⟨g,0,none⟩) (l.length+1) c) (l++[t])->wpList prog ops Q rest (a.put o.dst (.slice (some ⟨g,0,none⟩) (l.length+1) c)) w2):
  wpList prog ops Q (o::rest) a (w1.alloc (.cells #[t.kind,t.text,t.pos] 43)):=
 vy D fun _ hK=>BI s x J B w1 u l t hs S I N O hB M fun g c w2 h1=>hK _ _ (h g c w2 h1)
def px(s:ByteArray)(i:Nat)(lv nv:Value):Array Value:=#[s,(i:Int),lv,nv]
structure Dv(w:World)(X:Nat)(s:ByteArray)(i:Nat)(l:List cO)(lv nv:Value)(ns:List cO):Prop where
 blk:an w X 67 (px s i lv nv)
 toks:i7 (X+1) w lv l
 notes:i7 (X+1) w nv ns
 apart:∀g,lv.ownBlock=some g->nv.ownBlock=some g->False
 nfew:ns.length<=i
structure f6(w:World)(X:Nat)(s:ByteArray)(i:Nat)(l:List cO):Prop where
 out:∃lv nv ns,Dv w X s i l lv nv ns
 le:i<=s.size
 most:s.size<=65536
 few:l.length<=65537
section
variable {w w':World} {X:Nat} {s:ByteArray} {i:Nat} {l:List cO} {lv nv:Value} {ns:List cO}
theorem Dv.keep(h:Dv w X s i l lv nv ns)(D:∀b,X<=b->b<w.heap.size->w'.heap[b]? = w.heap[b]?):Dv w' X s i l lv nv ns:=
 ⟨(D X (gA _) h.blk.lt).trans h.blk,h.toks.keep fun b hb hlt=>D b (by omega) hlt,h.notes.keep fun b hb hlt=>D b (by omega) hlt,h.apart,h.nfew⟩
theorem Dv.below(h:Dv w X s i l lv nv ns)(hb:Below w w w'):Dv w' X s i l lv nv ns:=h.keep fun b _ hlt=>hb.block b hlt
theorem Dv.set(h:Dv w X s i l lv nv ns)(j:Nat)(D:i<=j):Dv (w.setCell ⟨X,1,none⟩ (.int .i64 (j:Int))) X s j l lv nv ns:=
 ⟨by simpa[px]using h.blk.set_ 1 (.int .i64 (j:Int)),h.toks.keep fun b hb _=>jN w ⟨X,1,none⟩ _ b (by show b≠X;omega),
  h.notes.keep fun b hb _=>jN w ⟨X,1,none⟩ _ b (by show b≠X;omega),h.apart,kC h.nfew D⟩
theorem Dv.row(h:Dv w X s i l lv nv ns){w2:World}{lv':Value}{l':List cO}(I:BH (X+1) w w2 lv lv' l'):Dv (w2.setCell ⟨X,2,none⟩ lv') X s i l' lv' nv ns:=by
 have O:w2.heap[X]? = w.heap[X]? :=I.bel.block X (by omega);have hb:an w2 X 67 (px s i lv nv):=O.trans h.blk;have U:i7 (X+1) w2 nv ns:=by
  refine⟨h.notes.1,?_⟩;rcases h.notes.2 with h0|⟨g,cap,cur,e,N,J,r⟩
  ·exact .inl h0
  ·refine .inr ⟨g,cap,cur,e,N,?_,r⟩;(have D:nv.ownBlock=some g:=by rw[e];rfl);exact(I.keep g (h.notes.lt g D).2 (fun e2=>h.apart g e2 D)).trans J
 refine⟨by simpa[px]using hb.set_ 2 lv',I.own.keep fun b hb _=>jN w2 ⟨X,2,none⟩ _ b (by show b≠X;omega),
  U.keep fun b hb _=>jN w2 ⟨X,2,none⟩ _ b (by show b≠X;omega),fun g h1 h2=>?_,h.nfew⟩
 rcases I.at_ with e|⟨g',e,M⟩
 ·exact h.apart g (e▸h1) h2
 ·rw[h1]at e;injection e with e;have:=(h.notes.lt g h2).2;omega
theorem Dv.noteRow(h:Dv w X s i l lv nv ns){w2:World}{nv':Value}{ns':List cO}(I:BH (X+1) w w2 nv nv' ns')(J:ns'.length<=i):Dv (w2.setCell ⟨X,3,none⟩ nv') X s i l lv nv' ns':=by
 have U:w2.heap[X]? = w.heap[X]? :=I.bel.block X (by omega);have hb:an w2 X 67 (px s i lv nv):=U.trans h.blk;have hL:i7 (X+1) w2 lv l:=by
  refine⟨h.toks.1,?_⟩;rcases h.toks.2 with h0|⟨g,cap,cur,e,O,M,r⟩
  ·exact .inl h0
  ·refine .inr ⟨g,cap,cur,e,O,?_,r⟩;(have D:lv.ownBlock=some g:=by rw[e];rfl);exact(I.keep g (h.toks.lt g D).2 (fun e2=>h.apart g D e2)).trans M
 refine⟨by simpa[px]using hb.set_ 3 nv',hL.keep fun b hb _=>jN w2 ⟨X,3,none⟩ _ b (by show b≠X;omega),
  I.own.keep fun b hb _=>jN w2 ⟨X,3,none⟩ _ b (by show b≠X;omega),fun g h1 h2=>?_,J⟩
 rcases I.at_ with e|⟨g',e,N⟩
 ·exact h.apart g h1 (e▸h2)
 ·rw[h2]at e;injection e with e;have:=(h.toks.lt g h1).2;omega
theorem f6.below(h:f6 w X s i l)(hb:Below w w w'):f6 w' X s i l:=by obtain⟨lv,nv,ns,D⟩:=h.out;exact⟨⟨lv,nv,ns,D.below hb⟩,h.le,h.most,h.few⟩
theorem f6.keep(h:f6 w X s i l)(D:∀b,X<=b->w'.heap[b]? = w.heap[b]?):f6 w' X s i l:=by obtain⟨lv,nv,ns,I⟩:=h.out;exact⟨⟨lv,nv,ns,I.keep fun b hb _=>D b hb⟩,h.le,h.most,h.few⟩
theorem f6.lt(h:f6 w X s i l):X<w.heap.size:=by obtain⟨lv,nv,ns,D⟩:=h.out;exact D.blk.lt
theorem f6.set(h:f6 w X s i l)(j:Nat)(D:i<=j)(I:j<=s.size):f6 (w.setCell ⟨X,1,none⟩ (.int .i64 (j:Int))) X s j l:=by obtain⟨lv,nv,ns,J⟩:=h.out;exact⟨⟨lv,nv,ns,J.set j D⟩,I,h.most,h.few⟩
end
def rK(X:Nat)(s:ByteArray)(w:World)(i:Nat)(l:List cO)(v:Value)(e:Ending)(w':World):Prop:=
 e=.returned v/\f6 w' X s i l/\Below X w w'
end
section
open Go.RowKit Go.Lib Go.Proofs
attribute [local go_sem ↓] Go.wp_at_zero Go.wp_at_succ
attribute [local go_sem] aV aW aX bv bw bz bA
theorem cS.kid{X:Nat->Prop}{w:World}{A0:Option Addr}{n c:Nat}{l:List Nd}(h:cS X w (.slice A0 n c) l)(i:Nat)(U:i<l.length):
  ∃ b off A cp,A0=some ⟨b,off,none⟩/\X b/\b<w.heap.size/\w.cell? ⟨b,off+i*4,none⟩=some (.int .i64 l[i].kind)/\w.cell? ⟨b,off+i*4+1,none⟩=some (.string l[i].text) /\
    w.cell? ⟨b,off+i*4+2,none⟩=some (.slice A l[i].kids.length cp)/\w.cell? ⟨b,off+i*4+3,none⟩=some (.int .i64 l[i].pos) /\
    af X w (.agg #[.int .i64 l[i].kind,.string l[i].text,.slice A l[i].kids.length cp,.int .i64 l[i].pos]) l[i]:=by obtain⟨A1,c1,xs,e,_,M,N⟩:=h;injection e with e1 e2 e3;subst e1 e2 e3;obtain⟨b,off,eA,hX,hc⟩:=M.2 (by omega);obtain⟨ys,hC,I⟩:=N.get i U;obtain⟨A,cp,zs,e,h1,h2,h3⟩:=hC.toV;subst e;have g:=fun j(O:j<4)v(J:[Value.int .i64 l[i].kind,.string l[i].text,.slice A l[i].kids.length cp,.int .i64 l[i].pos][j]? = some v)=>hc (i*4+j) v (by rw[I j O];exact J);have D:=g 0 (by omega) _ rfl;exact⟨b,off,A,cp,eA,hX,jB w _ D,D,by simpa[Nat.add_assoc]using g 1 (by omega) _ rfl,by simpa[Nat.add_assoc]using g 2 (by omega) _ rfl,by simpa[Nat.add_assoc]using g 3 (by omega) _ rfl,A,cp,zs,rfl,h1,h2,h3⟩
theorem af.kidsV{X:Nat->Prop}{w:World}{k t a:Value}{A:Option Addr}{m c:Nat}{n:Nd}(h:af X w (.agg #[k,t,.slice A m c,a]) n):cS X w (.slice A m c) n.kids:=by obtain⟨M,c1,xs,e,J,I,D⟩:=h;injection e with e;injection e with e;simp only[qD,vD]at e;obtain⟨_,_,e,_⟩:=e;exact⟨M,c1,xs,e,J,I,D⟩
def oT(F:iE)(a b:Nd):R (Nd×Nd×Nd):=fun c s=>(ci ⟨#[59]⟩ c s).bind fun _ s3=>(if aS c s3 ⟨#[123]⟩then .ok bX s3 else db (ne F) c s3).bind fun d s4=>.ok (a,b,d) s4
def pT(F:iE)(a:Nd):R (Nd×Nd×Nd):=fun c s=>(ci ⟨#[59]⟩ c s).bind fun _ s1=>(if aS c s1 ⟨#[59]⟩then .ok bX s1 else db F.expr c s1).bind fun b s2=>oT F a b c s2
theorem rV(F:iE)(c:Cx)(s:St):nf F c s=if aS c s ⟨#[59]⟩then pT F bX c s else(db (fq F) c s).bind fun x s1=>if x.kind=29 then .out else if x.kind<26 then .ok (bX,x,bX) s1 else pT F x c s1:=rfl
structure fA(R K:Nat)(w w':World):Prop where
 os:w'.os=w.os
 tape:w'.tape=w.tape
 output:w'.output=w.output
 size:w.heap.size<=w'.heap.size
 block:∀k,k<w.heap.size->k≠R->k≠K->w'.heap[k]? = w.heap[k]?
section
variable {R K:Nat} {w w1 w2:World}
theorem fA.refl(R K:Nat)(w:World):fA R K w w:=⟨rfl,rfl,rfl,gA _,fun _ _ _ _=>rfl⟩
theorem fA.step(h:fA R K w w1)(D:w1.grownBy w2 (some R)):fA R K w w2:=
 ⟨D.os.trans h.os,D.tape.trans h.tape,D.output.trans h.output,kC h.size D.size,fun k hk h1 h2=>(D.block k (kH hk h.size) (fun e=>h1 (by injection e))).trans (h.block k hk h1 h2)⟩
theorem fA.below(h:fA R K w w1)(D:Below w1 w1 w2):fA R K w w2:=h.step (de _ D)
theorem fA.put(h:fA R K w w1)(o:Nat)(a b c d:Value):fA R K w (iO w1 K o a b c d):=
 ⟨h.os,h.tape,h.output,by rw[DS];exact h.size,fun k hk h1 h2=>((fz (wk:=w1) (K:=K) (o:=o) (a:=a) (b:=b) (c:=c) (d:=d) (X:=fun b=>b≠K) (fun _ hb=>hb)).block k h2 (kH hk h.size)).trans (h.block k hk h1 h2)⟩
theorem fA.grown{w0:World}(D:w0.grownBy w (some R))(I:w0.heap.size<=K)(h:fA R K w w1):w0.grownBy w1 (some R):=
 ⟨h.os.trans D.os,h.tape.trans D.tape,h.output.trans D.output,kC D.size h.size,fun k hk hne=>(h.block k (kH hk D.size) (fun e=>hne (by rw[e])) (by omega)).trans (D.block k hk hne)⟩
end
theorem aU.put{E:cy}{w:World}{s:St}(h:aU E w s){K:Nat}(D:E.R<K)(o:Nat)(a b c d:Value):aU E (iO w K o a b c d) s:=
 h.keep fun b hb=>(fz (wk:=w) (K:=K) (o:=o) (X:=fun b=>b≠K) (fun _ hb=>hb)).block b (by omega) (by have:=h.lt;omega)
abbrev rW(n:Nd)(A:Option Addr)(c:Nat):List Value:=[.int .i64 n.kind,.string n.text,.slice A n.kids.length c,.int .i64 n.pos]
abbrev pU:List Value:=[.int .i64 0,.string ⟨#[]⟩,.slice none 0 0,.int .i64 0]
def B8(E:cy)(K:Nat)(w:World)(r:cC (Nd×Nd×Nd))(e:Ending)(w':World):Prop:=
 match r with
 | .ok (a,b,d) s=>e=.returned (.tuple #[])/\aU E w' s/\fA E.R K w w'/\∃ca cb cd,an w' K 24 (ca++cb++cd++pU).toArray/\bo (fun b=>w.heap.size<=b) w' a ca/\bo (fun b=>w.heap.size<=b) w' b cb/\bo (fun b=>w.heap.size<=b) w' d cd
 | .out=>False
theorem sQ{w:World}{g o:Nat}{t:TypeId}{cs:Array Value}{a b c d:Value}(h:an w g t cs)(I:cs[o]? = some a)(hb:cs[o+1]? = some b)(D:cs[o+2]? = some c)(hd:cs[o+3]? = some d):
  w.cell? ⟨g,o,none⟩=some a/\w.cell? ⟨g,o+1,none⟩=some b/\w.cell? ⟨g,o+2,none⟩=some c/\w.cell? ⟨g,o+3,none⟩=some d/\(w.frozen? ⟨g,o,none⟩=false/\w.frozen? ⟨g,o+1,none⟩=false/\w.frozen? ⟨g,o+2,none⟩=false/\w.frozen? ⟨g,o+3,none⟩=false):=
 ⟨(h.cell _).trans I,(h.cell _).trans hb,(h.cell _).trans D,(h.cell _).trans hd,h.frozen _,h.frozen _,h.frozen _,h.frozen _⟩
def yb(E:cy)(K L:Nat)(w:World)(s:St)(a b d:Nd)(w1:World):Prop:=
 aU E w1 s/\fA E.R K w w1/\w1.cell? ⟨L,2,none⟩=some (.slice (some ⟨K,0,none⟩) 4 4)/\∃A1 c1 A2 c2 A3 c3,an w1 K 24 (rW a A1 c1++rW b A2 c2++rW d A3 c3++pU).toArray /\
  bo (fun b=>w.heap.size<=b) w1 a (rW a A1 c1)/\bo (fun b=>w.heap.size<=b) w1 b (rW b A2 c2)/\bo (fun b=>w.heap.size<=b) w1 d (rW d A3 c3)
section
variable {E:cy} {K L:Nat} {w:World} {s:St} {a b d:Nd} {w1 w2:World}
theorem yb.step(h:yb E K L w s a b d w1){s':St}(D:aw E s' w1 w2)(M:E.R<K)(N:K<w.heap.size)(J:L≠E.R):yb E K L w s' a b d w2:=by obtain⟨-,gk,lc,A1,c1,A2,c2,A3,c3,hB,h1,U,O⟩:=h;have I:=(ar.of_grown (X:=fun b=>w.heap.size<=b) D.gr).block;exact⟨D.rd,gk.step D.gr,D.gr.cell lc (fun e=>J (by injection e)),A1,c1,A2,c2,A3,c3,hB.grown D.gr,h1.keep I,U.keep I,O.keep I⟩
theorem yb.drew(h:yb E K L w s a b d w1):yb E K L w s a b d w1.drew:=by obtain⟨rd,gk,lc,O,c1,N,c2,M,c3,hB,J,I,D⟩:=h;exact⟨rd.drew,gk.below (gG _ _).drew,lc,O,c1,N,c2,M,c3,hB.drew,J.keep (w:=w1) (w':=w1.drew) (fun _ _ _=>rfl),I.keep (w:=w1) (w':=w1.drew) (fun _ _ _=>rfl),D.keep (w:=w1) (w':=w1.drew) (fun _ _ _=>rfl)⟩
theorem yb.putK(h:yb E K L w s a b d w1)(I:E.R<K)(J:L≠K)(M:K<w.heap.size)(o:Nat)(p q r t:Value):
  aU E (iO w1 K o p q r t) s/\fA E.R K w (iO w1 K o p q r t)/\(iO w1 K o p q r t).cell? ⟨L,2,none⟩=some (.slice (some ⟨K,0,none⟩) 4 4) /\
   ∀n cs,bo (fun b=>w.heap.size<=b) w1 n cs->bo (fun b=>w.heap.size<=b) (iO w1 K o p q r t) n cs:=by obtain⟨rd,gk,lc,-⟩:=h;have D:=(fz (wk:=w1) (K:=K) (o:=o) (a:=p) (b:=q) (c:=r) (d:=t) (X:=fun b=>b≠K) (fun _ hb=>hb)).block;exact⟨rd.put I o p q r t,gk.put o p q r t,(kY (a:=⟨L,2,none⟩) (D L J (jB _ _ lc))).trans lc,fun n cs h=>h.keep fun b hb hlt=>D b (by have hb:w.heap.size<=b:=hb;omega) hlt⟩
theorem yb.put0(h:yb E K L w s a b d w1)(D:E.R<K)(I:L≠K)(J:K<w.heap.size){n:Nd}{A:Option Addr}{c:Nat}(U:bo (fun b=>w.heap.size<=b) w1 n (rW n A c)):
  yb E K L w s n b d (iO w1 K 0 (.int .i64 n.kind) (.string n.text) (.slice A n.kids.length c) (.int .i64 n.pos)):=by obtain⟨O,N,M,kf⟩:=h.putK D I J 0 (.int .i64 n.kind) (.string n.text) (.slice A n.kids.length c) (.int .i64 n.pos);obtain⟨-,-,-,A1,c1,A2,c2,A3,c3,hB,h1,h2,h3⟩:=h;exact⟨O,N,M,A,c,A2,c2,A3,c3,by simpa using lh (o:=0) (a:=.int .i64 n.kind) (b:=.string n.text) (c:=.slice A n.kids.length c) (d:=.int .i64 n.pos) hB,kf _ _ U,kf _ _ h2,kf _ _ h3⟩
theorem yb.put1(h:yb E K L w s a b d w1)(D:E.R<K)(I:L≠K)(J:K<w.heap.size){n:Nd}{A:Option Addr}{c:Nat}(U:bo (fun b=>w.heap.size<=b) w1 n (rW n A c)):
  yb E K L w s a n d (iO w1 K 4 (.int .i64 n.kind) (.string n.text) (.slice A n.kids.length c) (.int .i64 n.pos)):=by obtain⟨O,N,M,kf⟩:=h.putK D I J 4 (.int .i64 n.kind) (.string n.text) (.slice A n.kids.length c) (.int .i64 n.pos);obtain⟨-,-,-,A1,c1,A2,c2,A3,c3,hB,h1,h2,h3⟩:=h;exact⟨O,N,M,A1,c1,A,c,A3,c3,by simpa using lh (o:=4) (a:=.int .i64 n.kind) (b:=.string n.text) (c:=.slice A n.kids.length c) (d:=.int .i64 n.pos) hB,kf _ _ h1,kf _ _ U,kf _ _ h3⟩
theorem yb.put2(h:yb E K L w s a b d w1)(D:E.R<K)(I:L≠K)(J:K<w.heap.size){n:Nd}{A:Option Addr}{c:Nat}(U:bo (fun b=>w.heap.size<=b) w1 n (rW n A c)):
  yb E K L w s a b n (iO w1 K 8 (.int .i64 n.kind) (.string n.text) (.slice A n.kids.length c) (.int .i64 n.pos)):=by obtain⟨O,N,M,kf⟩:=h.putK D I J 8 (.int .i64 n.kind) (.string n.text) (.slice A n.kids.length c) (.int .i64 n.pos);obtain⟨-,-,-,A1,c1,A2,c2,A3,c3,hB,h1,h2,h3⟩:=h;exact⟨O,N,M,A1,c1,A2,c2,A,c,by simpa using lh (o:=8) (a:=.int .i64 n.kind) (b:=.string n.text) (c:=.slice A n.kids.length c) (d:=.int .i64 n.pos) hB,kf _ _ h1,kf _ _ h2,kf _ _ U⟩
theorem yb.fin{res:cC (Nd×Nd×Nd)}(h:yb E K L w s a b d w1)(D:res=.ok (a,b,d) s):B8 E K w res (.returned (.tuple #[])) w1:=by obtain⟨rd,gk,-,U,c1,O,c2,N,c3,hB,M,J,I⟩:=h;subst D;exact⟨rfl,rd,gk,_,_,_,hB,M,J,I⟩
end
theorem Lj(E:cy)(F:iE)(hF:pw E F)(hR:uC E F)(K L:Nat)(s:St)(w:World)(h:aU E w s)(J:E.R<K)(D:K<w.heap.size)(N:L≠K)(ga:L≠E.R)(_hLlt:L<w.heap.size)
  (gy:w.cell? ⟨L,2,none⟩=some (.slice (some ⟨K,0,none⟩) 4 4))(gz:an w K 24 (pU++pU++pU++pU).toArray)(gv:nf F E.c s≠.out):
  Calls prog 220 #[E.R,L] w (B8 E K w (nf F E.c s)):=by
 generalize hres:nf F E.c s=res at *;rw[rV]at hres;have gh:=hid hres;have gj:=hid gv;have hc:=h.lt;have g7:=h.most;clear hres gv;have g6:∀w0,Go.RowKit.Hid (fZ E 41 (#[.pointer (some ⟨E.R,0,none⟩)] ++ #[]) F.expr w0):=fun w0=>hid (hF.expr.part w0);have g4:∀w0,Go.RowKit.Hid (fZ E 235 (#[.pointer (some ⟨E.R,0,none⟩)] ++ #[]) (fq F) w0):=fun w0=>hid ((DR E F hF hR).part w0);have g2:∀w0,Go.RowKit.Hid (fZ E 236 (#[.pointer (some ⟨E.R,0,none⟩)] ++ #[]) (ne F) w0):=fun w0=>hid ((Li E F hF hR).part w0);have ha:Hid (∀a w,(callFunc 41 a).run prog w=.ok (.enter 41 a) w):=hid (fun a w=>by kernel_rfl);have g9:Hid (∀a w,(callFunc 235 a).run prog w=.ok (.enter 235 a) w):=hid (fun a w=>by kernel_rfl);have g8:Hid (∀a w,(callFunc 236 a).run prog w=.ok (.enter 236 a) w):=hid (fun a w=>by kernel_rfl);have g5:=hid g6;have g3:=hid g4;have g1:=hid g2;clear g6 g4 g2;have HS:Hid (yb E K L w s bX bX bX w):=hid (⟨h,fA.refl E.R K w,gy,none,0,none,0,none,0,gz,eP,eP,eP⟩);clear gy gz;(go_enter func220,ntmps220);go_wp2_with fail;refine(bU E s ⟨#[59]⟩ _ h).mono ?_;generalize gd:aS E.c s ⟨#[59]⟩=b1;rintro e w2⟨rfl,hb⟩;have gp:=hid (HS.out.step ((aw.refl h).step hb) J D ga);have ge:=hid gd;clear hb HS gd;(go_upto_if 7 with fail);go_cut [] (fun wx=>∃x s1,yb E K L w s1 x bX bX wx/\pT F x E.c s1=res)
 case first=>
  cases b1 with
  |true=>go_wp2_with fail;go_meet;exact⟨bX,s,gp.out,by rw[<-gh.out,gF ge.out]⟩
  | false=>
   have gm:=gp.out;have gu:=gm.1;have HE:=hid (show(db (fq F) E.c s).bind (fun x s1=>if x.kind=29 then .out else if x.kind<26 then .ok (bX,x,bX) s1 else pT F x E.c s1)=res by rw[<-gh.out,d5 (by rw[ge.out];decide)]);clear gh ge gp;go_wp2_with fail;cases hQ:db (fq F) E.c s with
   |out=>exact absurd HE.out.symm (by rw[hQ];exact gj.out)
   |ok x s1=>
    have M:=hid (show(if x.kind=29 then .out else if x.kind<26 then .ok (bX,x,bX) s1 else pT F x E.c s1)=res by rw[<-HE.out,hQ];rfl);refine(mg E _ _ _ (fq F) s _ gu g9.out ((g3.out _).out) (by rw[hQ];exact nofun)).mono ?_;rw[hQ];rintro e w3⟨⟨v,rfl,hv⟩,hm⟩;obtain⟨A0,c0,rfl,gn⟩:=hv.toC;clear hQ HE;have gn:=gn.mono (Y:=fun b=>w.heap.size<=b) (fun b hb _=>by have hb:w2.heap.size<=b:=hb;have:=gm.2.1.size;omega);have gl:=gm.step hm J D ga;(go_upto_region 2 with fail);have gx:=(aj w3 (nv x A0 c0)).1;have bT:=(aj w3 (nv x A0 c0)).2;have gq:=(aw.refl gl.1).step gx;have I:=gl.step gq J D ga;have g0:=(gn.keep (ar.of_grown (X:=fun b=>w.heap.size<=b) gq.gr).block).keep (w':=(w3.alloc (.cells (nv x A0 c0) 24)).drew) (w:=w3.alloc (.cells (nv x A0 c0) 24)) (fun _ _ _=>rfl);(have hf:w3.heap.size≠K:=by have:=gl.2.1.size;omega);clear gm gl hm gq gn hv gu gx;generalize w3.heap.size=T at *;change Code.wp _ _ _ _ (w3.alloc (.cells (nv x A0 c0) 24));generalize(w3.alloc (.cells (nv x A0 c0) 24))=w4 at *;obtain⟨y0,y1,y2,y3,-,-,-,-⟩:=ab bT;have gk:=I.1;by_cases gb:x.kind=29
    ·have HF:Hid (res=.out):=hid (by rw[<-M.out,gF gb]);exact absurd (HF.out) gj.out
    (have hg:(x.kind==29)=false:=by simp[gb]);obtain⟨lc,A1,c1,A2,c2,A3,c3,kb,-⟩:=I.2.2;have he:K≠L:=N.symm;have O:=hid I.drew;clear I;by_cases gw:x.kind<26
    ·have U:=hid (show(.ok (bX,x,bX) s1:cC (Nd×Nd×Nd))=res by rw[<-M.out,d5 gb,gF gw]);clear gb M;obtain⟨z0,z1,z2,z3,z4,z5,z6,z7⟩:=sQ (o:=4) kb rfl rfl rfl rfl;go_wp2_with fail;(go_still_tail 6,(by kernel_rfl));all_goals(go_wp2_with fail);refine jV (qj rfl _ _ _) rfl ?_;exact(O.out.put1 J N D g0).fin U.out.symm
    have U:Hid (pT F x E.c s1=res):=hid (by rw[<-M.out,d5 gb,d5 gw]);clear gb M;obtain⟨z0,z1,z2,z3,z4,z5,z6,z7⟩:=sQ (o:=0) kb rfl rfl rfl rfl;go_wp2_with fail;(go_still_tail 6,(by kernel_rfl));all_goals(go_wp2_with fail);go_meet;exact⟨x,s1,O.out.put0 J N D g0,U.out⟩
 case rest=>
  rename World=>wc;obtain⟨x,s1,hS,hE⟩:=hcut;have rd:=hS.1;have HE:=hid hE;clear gp ge gh h;have HS:=hid hS;clear hS hE;go_wp2_with fail;cases hN:aS E.c s1 ⟨#[59]⟩with
  |false=>exact absurd (show res=.out by rw[<-HE.out,pT,ci];simp[hN]) gj.out
  | true=>
   refine(dU E s1 _ _ rd hN).mono ?_;rintro e w3⟨rfl,hm⟩;have gi:=hid (HS.out.step hm J D ga);have gg:=hm.rd;have M:=hid (show(if aS E.c (adv s1) ⟨#[59]⟩then .ok bX (adv s1)else db F.expr E.c (adv s1)).bind (fun b s2=>oT F x b E.c s2)=res by rw[<-HE.out,pT,ci];simp only[hN,kW,cC.bind_ok]);clear HE hN hm HS rd;go_wp2_with fail;refine(bU E (adv s1) ⟨#[59]⟩ _ gg).mono ?_;generalize gd:aS E.c (adv s1) ⟨#[59]⟩=b2;rintro e w4⟨rfl,hb⟩;have O:=hid (gi.out.step ((aw.refl gg).step hb) J D ga);have ge:=hid gd;clear hb gi gd gg;(go_upto_if 38 with fail);go_cut [] (fun wx=>∃b s2,yb E K L w s2 x b bX wx/\oT F x b E.c s2=res)
   case first=>
    cases b2 with
    |true=>go_wp2_with fail;go_meet;exact⟨bX,adv s1,O.out,by rw[<-M.out,gF ge.out];rfl⟩
    | false=>
     have I:=O.out;have U:=hid (show(db F.expr E.c (adv s1)).bind (fun b s2=>oT F x b E.c s2)=res by rw[<-M.out,d5 (by rw[ge.out];decide)]);clear M ge O;have gk:=I.1;obtain⟨lc,A1,c1,A2,c2,A3,c3,kb,-⟩:=I.2.2;cases hQ:db F.expr E.c (adv s1)with
     |out=>exact absurd U.out.symm (by rw[hQ];exact gj.out)
     | ok n t=>
      have gt:Hid (oT F x n E.c t=res):=hid (by rw[<-U.out,hQ];rfl);have HC:=hid (fun W(hr:aU E W (adv s1))=>mg E _ _ _ F.expr (adv s1) W hr ha.out ((g5.out _).out) (by rw[hQ];exact nofun));rw[hQ]at HC;have O:=hid I;clear U I;go_wp2_with fail;go_region_held3 (fun w'=>w'.cell? ⟨L,2,none⟩=some (.slice (some ⟨K,0,none⟩) 4 4))
       (first|with_reducible exact zL|exact lc|(rw[gH _ _ _ _ (by exact N.symm),gH _ _ _ _ (by exact N.symm),gH _ _ _ _ (by exact N.symm),gH _ _ _ _ (by exact N.symm)];exact zL))
       ((go_at_call 218;refine(HC.out _ gk.drew).mono ?_;rintro e w5⟨⟨v,rfl,hv⟩,hm⟩;obtain⟨A,c,rfl,hC⟩:=hv.toC;have zL:=hm.gr.cell (show w4.drew.cell? ⟨L,2,none⟩=_ from lc) (fun e=>ga (by injection e));have zK:=kb.drew.grown hm.gr;obtain⟨z0,z1,z2,z3,z4,z5,z6,z7⟩:=sQ (o:=4) zK rfl rfl rfl rfl))
      have gs:=(O.out.drew.step hm J D ga).put1 J N D (hC.mono (Y:=fun b=>w.heap.size<=b) fun b hb _=>by have hb:w4.heap.size<=b:=hb;have:=O.out.2.1.size;omega);all_goals(go_wp2_with fail);go_meet;exact⟨n,t,gs,gt.out⟩
   case rest=>
    rename World=>wc;obtain⟨b,s2,hS,hE⟩:=hcut;have rd:=hS.1;have HE:=hid hE;have HS:=hid hS;clear hS hE O ge M;go_wp2_with fail;cases hN:aS E.c s2 ⟨#[59]⟩with
    |false=>exact absurd (show res=.out by rw[<-HE.out,oT,ci];simp[hN]) gj.out
    | true=>
     refine(dU E s2 _ _ rd hN).mono ?_;rintro e w3⟨rfl,hm⟩;have gi:=hid (HS.out.step hm J D ga);have gg:=hm.rd;have M:=hid (show(if aS E.c (adv s2) ⟨#[123]⟩then .ok bX (adv s2)else db (ne F) E.c (adv s2)).bind (fun d s4=>.ok (x,b,d) s4)=res by rw[<-HE.out,oT,ci];simp only[hN,kW,cC.bind_ok]);clear HE hN hm HS rd;go_wp2_with fail;refine(bU E (adv s2) ⟨#[123]⟩ _ gg).mono ?_;cases gd:aS E.c (adv s2) ⟨#[123]⟩with
     |true=>rintro e w4⟨rfl,hb⟩;have I:=gi.out.step ((aw.refl gg).step hb) J D ga;have U:=hid (show(.ok (x,b,bX) (adv s2):cC (Nd×Nd×Nd))=res by rw[<-M.out,gF gd];rfl);go_wp2_with fail;refine jV (qj rfl _ _ _) rfl ?_;exact I.fin U.out.symm
     | false=>
      rintro e w4⟨rfl,hb⟩;have I:=gi.out.step ((aw.refl gg).step hb) J D ga;have U:=hid (show(db (ne F) E.c (adv s2)).bind (fun d s4=>.ok (x,b,d) s4)=res by rw[<-M.out,d5 (by rw[gd];decide)]);clear M gd gi hb;have gk:=I.1;obtain⟨lc,A1,c1,A2,c2,A3,c3,kb,-⟩:=I.2.2;cases hQ:db (ne F) E.c (adv s2)with
      |out=>exact absurd U.out.symm (by rw[hQ];exact gj.out)
      | ok n t=>
       have gt:=hid (show(.ok (x,b,n) t:cC (Nd×Nd×Nd))=res by rw[<-U.out,hQ];rfl);have HC:=hid (fun W(hr:aU E W (adv s2))=>mg E _ _ _ (ne F) (adv s2) W hr g8.out ((g1.out _).out) (by rw[hQ];exact nofun));rw[hQ]at HC;have O:=hid I;clear U I;go_wp2_with fail;go_region_held3 (fun w'=>w'.cell? ⟨L,2,none⟩=some (.slice (some ⟨K,0,none⟩) 4 4))
        (first|with_reducible exact zL|exact lc|(rw[gH _ _ _ _ (by exact N.symm),gH _ _ _ _ (by exact N.symm),gH _ _ _ _ (by exact N.symm),gH _ _ _ _ (by exact N.symm)];exact zL))
        ((go_at_call 218;refine(HC.out _ gk.drew).mono ?_;rintro e w5⟨⟨v,rfl,hv⟩,hm⟩;obtain⟨A,c,rfl,hC⟩:=hv.toC;have zL:=hm.gr.cell (show w4.drew.cell? ⟨L,2,none⟩=_ from lc) (fun e=>ga (by injection e));have zK:=kb.drew.grown hm.gr;obtain⟨z0,z1,z2,z3,z4,z5,z6,z7⟩:=sQ (o:=8) zK rfl rfl rfl rfl))
       have gs:=(O.out.drew.step hm J D ga).put2 J N D (hC.mono (Y:=fun b=>w.heap.size<=b) fun b hb _=>by have hb:w4.heap.size<=b:=hb;have:=O.out.2.1.size;omega);all_goals(go_wp2_with fail);refine jV (qj rfl _ _ _) rfl ?_;exact gs.fin gt.out.symm
end
section
open Go.RowKit Go.Lib Go.Proofs
abbrev aF(w:World)(v:Value)(n:Nd):Prop:=af (fun _=>True) w v n
theorem af.wide{X:Nat->Prop}{w:World}{v:Value}{n:Nd}(h:af X w v n):aF w v n:=h.mono fun _ _ _=>trivial
theorem af.below{X:Nat->Prop}{w w':World}{v:Value}{n:Nd}(h:af X w v n)(hb:Below w w w'):af X w' v n:=h.keep fun b _ hlt=>hb.block b hlt
theorem cS.below{X:Nat->Prop}{w w':World}{v:Value}{l:List Nd}(h:cS X w v l)(hb:Below w w w'):cS X w' v l:=by obtain⟨A,cap,xs,e,J,I,D⟩:=h;exact⟨A,cap,xs,e,J,I.keep fun b _ hlt=>hb.block b hlt,D.keep fun b _ hlt=>hb.block b hlt⟩
abbrev i9(w:World)(v:Value)(l:List Nd):Prop:=cS (fun _=>True) w v l
theorem fH(a b:Int):(a==b)=decide (a=b):=by rw[kQ];simp
def cP(w:World):Prop:=∃m:Int,w.cell? ⟨2,0,none⟩=some (.int .i64 m)
theorem cP.below{w w':World}(h:cP w)(hb:Below w w w'):cP w':=by obtain⟨m,h⟩:=h;exact⟨m,(hb.cell (jB w _ h)).trans h⟩
structure Fv where
 k:FuncId
 cap:Array Value
def Fv.val(f:Fv):Value:=.func (.func f.k) #[] f.cap
structure nP(d:Nat)(P:Nd->Bool)(f:Fv)(w0:World):Prop where
 enter:∀a w,(callFunc f.k a).run prog w=.ok (.enter f.k a) w
 out:∀(w:World)(v:Value)(n:Nd),Below w0 w0 w->aF w v n->dK d n->Calls prog f.k (#[v]++f.cap) w fun e w'=>e=.returned (.bool (P n))/\Below w w w'
theorem nP.below{d:Nat}{P:Nd->Bool}{f:Fv}{w0 w1:World}(h:nP d P f w0)(hb:Below w0 w0 w1):nP d P f w1:=
 ⟨h.enter,fun w v n hw=>h.out w v n (aD hb hw)⟩
structure BJ(P:ByteArray->Bool)(f:Fv)(w0:World):Prop where
 enter:∀a w,(callFunc f.k a).run prog w=.ok (.enter f.k a) w
 out:∀(w:World)(s:ByteArray),Below w0 w0 w->s.size<=1000000000->Calls prog f.k (#[.string s]++f.cap) w fun e w'=>e=.returned (.bool (P s))/\Below w w w'
theorem BJ.below{P:ByteArray->Bool}{f:Fv}{w0 w1:World}(h:BJ P f w0)(hb:Below w0 w0 w1):BJ P f w1:=
 ⟨h.enter,fun w s hw=>h.out w s (aD hb hw)⟩
def f9(d:Nat)(P:Nd->Bool)(f:FuncId):Prop:=
 ∀(w:World)(v:Value)(n:Nd),cP w->aF w v n->dK d n->Calls prog f #[v] w fun e w'=>e=.returned (.bool (P n))/\Below w w w'
theorem f9.so{d:Nat}{P:Nd->Bool}{f:FuncId}(h:f9 d P f)(D:∀a w,(callFunc f a).run prog w=.ok (.enter f a) w)(w0:World)(I:cP w0):nP d P ⟨f,#[]⟩ w0:=
 ⟨D,fun w v n hb hv hd=>h w v n (I.below hb) hv hd⟩
theorem f9.le{d d':Nat}{P:Nd->Bool}{f:FuncId}(h:f9 d P f)(hd:∀n,dK d' n->dK d n):f9 d' P f:=fun w v n hT hv hn=>h w v n hT hv (hd n hn)
end
end Go.Proofs.YtiebcdeafofgdaaGreatDoor
