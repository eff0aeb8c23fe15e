/-
  Parts of the proof: Otown Rkit St Lpl Rtyp Rft Rty2 Rterm. By an AI agent.
-/
import Derived.Test.YtcoiialmdncpfaaGreatDoorJ00
import Derived.Test.YtcoiialmdncpfaaGreatDoorJ04
import Derived.Test.YtcoiialmdncpfaaGreatDoorJ01
import Derived.WalkKit
import Derived.Lib.Hide
import Derived.Lib.Replace
import Derived.Lib.IndexBytes
import Derived.Deep.RegionHeld2
open Go.Proofs.Tryz
set_option maxRecDepth 100000
set_option maxHeartbeats 8000000
namespace Go.Proofs.YtcoiialmdncpfaaGreatDoor
section
open Go.RowKit Go.Lib Go.Proofs
attribute [local go_sem ↓] Go.wp_at_zero Go.wp_at_succ
theorem gD:type_of% @beq_eq_false_iff_ne:=@beq_eq_false_iff_ne
theorem gU:type_of% @Go.World.block_lt_of_cell?:=@Go.World.block_lt_of_cell?
theorem jB:type_of% @decide_eq_true_iff:=@decide_eq_true_iff
theorem jS:type_of% @Go.wp_region_held_drew:=@Go.wp_region_held_drew
theorem vk:type_of% @List.cons.injEq:=@List.cons.injEq
theorem xu:type_of% @and_true:=@and_true
def Px(X:Nat->Prop)(w:World)(v:Value)(l:List Tx):Prop:=
 ∃A cap xs,v=.slice A l.length cap/\l.length<=cap/\bK X w 3 A l.length xs/\bE X w l xs
theorem Oo:(prog.info? 73).map (fun i=>(i.zero,i.size,i.bytes))=some (some (.agg #[.string ⟨#[]⟩,.string ⟨#[]⟩,.slice none 0 0]),3,56):=by kernel_rfl
structure lQ(B:Nat)(w:World)(v:Value)(l:List Tx):Prop where
 out:∃xs,w.ownsRow B 73 3 v l.length xs/\bE (fun b=>B<=b/\some b≠v.ownBlock) w l xs
theorem lQ.nil(B:Nat)(w:World):lQ B w (.slice none 0 0) []:=⟨[],kP _ _ _ _,bE.nil⟩
theorem lQ.keep{B:Nat}{w w':World}{v:Value}{l:List Tx}(h:lQ B w v l)(J:∀b,B<=b->b<w.heap.size->w'.heap[b]? = w.heap[b]?):lQ B w' v l:=by
 obtain⟨xs,O,q⟩:=h.out;refine⟨xs,⟨O.1,?_⟩,q.keep fun b hb D=>J b hb.1 D⟩;rcases O.2 with x|⟨g,cap,cur,e,M,I,r⟩
 ·exact .inl x
 ·refine .inr ⟨g,cap,cur,e,M,?_,r⟩;have D:g<w.heap.size:=by
   rcases kN g w.heap.size with D|hge
   ·exact D
   ·rw[kH hge]at I;cases I
  exact(J g M D).trans I
theorem lQ.grown{B R:Nat}{w w':World}{v:Value}{l:List Tx}(h:lQ B w v l)(D:w.grownBy w' (some R))(I:R<B):lQ B w' v l:=
 h.keep fun b hb hlt=>D.block b hlt (fun e=>by injection e;omega)
theorem lQ.values{B:Nat}{w:World}{v:Value}{l:List Tx}(h:lQ B w v l):Px (fun b=>B<=b) w v l:=by
 obtain⟨xs,D,J⟩:=h.out;rcases D.2 with⟨rfl,z⟩|⟨g,cap,cur,rfl,y,x,I,_,O,M⟩
 ·exact⟨none,0,xs,by rw[z],by omega,⟨D.1,fun h=>by omega⟩,J.mono fun b hb _=>hb.1⟩
 ·refine⟨_,cap,xs,rfl,I,⟨D.1,fun _=>⟨g,0,rfl,y,fun j u hu=>?_⟩⟩,J.mono fun b hb _=>hb.1⟩;(have q:j<l.length*3:=by have:=(List.getElem?_eq_some_iff.1 hu).1;rw[D.1]at this;exact this);rw[kL];unfold World.cell?;rw[x];simp only[qT,gX,kK];rw[<-M,vp q]at hu;rw[<-hu];simp
theorem lQ.push{B S:Nat}{w1 w2:World}{u v':Value}{l:List Tx}{n:Tx}{o:Obj}{cs:List Value}{xs:List Value}
  (h:bE (fun b=>B<=b/\some b≠u.ownBlock) w1 l xs)
  (x:tL (fun b=>S<=b) w1 n cs)(y:B<=S)(O:∀g,u.ownBlock=some g->g<S)
  (I:w2.ownsRow B 73 3 v' (l.length+1) (xs++cs))(q:(w1.alloc o).grownBy w2 u.ownBlock)(J:v'.ownBlock=u.ownBlock\/v'.ownBlock=some (w1.alloc o).heap.size):lQ B w2 v' (l++[n]):=by
 refine⟨xs++cs,by rw[gK];exact I,?_⟩;have h1:bE (fun b=>B<=b/\some b≠u.ownBlock/\b<w1.heap.size) w1 (l++[n]) (xs++cs):=
  (h.mono fun b hb D=>⟨hb.1,hb.2,D⟩).app (bE.one (x.mono fun b hb D=>⟨gN y hb,fun e=>by have:=O b e.symm;omega,D⟩))
 have z:=h1.keep (w':=w2) fun b hb D=>(q.block b (by rw[gP];omega) hb.2.1).trans (gS w1 o b D);refine z.mono fun b hb _=>⟨hb.1,?_⟩;rcases J with e|e
 ·rw[e];exact hb.2.1
 ·rw[e,gP];intro M;injection M with M;omega
theorem Oq(n:Tx)(A:Option Addr)(cap:Nat):∀u∈[Value.string n.op,.string n.tag,.slice A n.kids.length cap],u.oneCell'=true:=by intro u D;simp only[vb,qN,xj]at D;rcases D with rfl|rfl|rfl<;>rfl
theorem lQ.lt{B:Nat}{w:World}{v:Value}{l:List Tx}(h:lQ B w v l):∀g,v.ownBlock=some g->B<=g/\g<w.heap.size:=by obtain⟨xs,D,_⟩:=h.out;exact fun g hg=>D.lt g hg
theorem AP{ops:Array Oper}{rest:List Oper}{o:Oper}{a:Act}{Q:Exit->Act->World->Prop}(gb:o.guard=none)(s x:Operand)
  (ho:o.op=.call { callee:=.builtin .append,args:=#[s,x],argTypes:=#[71,71] })
  (B S:Nat)(w1:World)(u:Value)(l:List Tx)(n:Tx)(A:Option Addr)(cap:Nat)(hs:a.eval s=u)(hx:a.eval x=.slice (some ⟨w1,0,none⟩) 1 1)
  (hO:lQ B w1 u l)(hB:B<=S)(hS:S<=w1.heap.size)(hu:∀g,u.ownBlock=some g->g<S)(hl:l.length<=1000000)
  (hV:tL (fun b=>S<=b) w1 n [.string n.op,.string n.tag,.slice A n.kids.length cap])
  (h:∀g c w2,lQ B w2 (.slice (some ⟨g,0,none⟩) (l.length+1) c) (l++[n])->Below B w1 w2->g<w2.heap.size->wpList prog ops Q rest (a.put o.dst (.slice (some ⟨g,0,none⟩) (l.length+1) c)) w2):
  wpList prog ops Q (o::rest) a (w1.alloc (.cells #[.string n.op,.string n.tag,.slice A n.kids.length cap] 73)):=by
 refine vJ gb fun K hK=>?_;obtain⟨i0,hi,q,O,M⟩:=qr Oo;obtain⟨xs,I,z⟩:=hO.out;refine vE _ s x 71 ho B 73 i0 _ 3 56 underlying71 hi q O M rfl (by omega) u l.length xs hs (I.alloc _) ⟨w1,0,none⟩ 1 1 [.string n.op,.string n.tag,.slice A n.kids.length cap] hx rfl
  (qQ (cs:=#[.string n.op,.string n.tag,.slice A n.kids.length cap]) (kJ _ _)) (Oq n A cap) (by omega) (by unfold maxLen;omega) (by omega) (by rw[gP];omega) _ rfl ?_
 intro g c w2 hown1 D gd _;have y:∀g,u.ownBlock=some g->B<=g:=fun g D=>(hO.lt g D).1;have ga:w1.heap.size<=w2.heap.size:=gN (by rw[gP];omega) D.size;have J:lQ B w2 (.slice (some ⟨g,0,none⟩) (l.length+1) c) (l++[n]):=lQ.push z hV hB hu hown1 D (by
  rcases gd with e|e
  ·exact .inl (by rw[e];rfl)
  ·exact .inr (by rw[e];rfl))
 refine hK _ _ (h g c w2 J ⟨D.os,D.tape,D.output,ga,fun b hb=>?_⟩ (J.lt g rfl).2);exact(D.block b (by rw[gP];omega) (fun e=>by have:=y b e.symm;omega)).trans (gS w1 _ b (by omega))
end
section
open Go.RowKit Go.Lib Go.Proofs
def dp(E:bC)(m:R Nd)(f:FuncId):Prop:=
 ∀(w:World)(s:St),aH E w s->m E.c s≠.out->Calls prog f #[E.R] w (ic E w (m E.c s))
structure mC(E:bC)(F:eQ):Prop where
 typ:dp E F.typ 200
 expr:dp E F.expr 207
 unary:dp E F.unary 301
 stmt:dp E F.stmt 204
 ifS:dp E F.ifS 265
 g:F.g<=1000000
theorem dp.part{E:bC}{m:R Nd}{f:FuncId}(h:dp E m f)(w0:World):eu E f #[E.R] m w0:=fun w s _ hr hm=>h w s hr hm
theorem aq.make{X:Nat->Prop}{wj w2:World}{l:List Nd}{xs:List Value}(k:Nat)(M:l.length=k)(J:ae X wj l xs)(kind:Int)(t:ByteArray)(pos:Int)
  (hb:Below (wj.alloc (.cells xs.toArray 41)).heap.size (wj.alloc (.cells xs.toArray 41)) w2):
  aq (fun b=>(X b/\b<wj.heap.size)\/b=wj.heap.size) w2 (.agg #[kind,t,.slice (some ⟨wj,0,none⟩) k k,pos]) (.mk kind t l pos):=by
 subst M;have I:aa w2 wj.heap.size 41 xs.toArray:=(aa.new wj 41 xs.toArray).below hb (by simp);refine⟨some ⟨wj,0,none⟩,l.length,xs,rfl,gB _,⟨J.len,fun _=>⟨wj.heap.size,0,rfl,.inr rfl,fun j u hu=>?_⟩⟩,?_⟩
 ·have:=I.cell (0+j);rw[this,kL];simpa using hu
 ·refine((J.mono (Y:=fun b=>X b/\b<wj.heap.size) fun b hb D=>⟨hb,D⟩).keep (w':=w2) fun b hx D=>?_).mono fun b hb _=>.inl hb;exact(hb.block b (by simp;omega)).trans (gS wj _ b D)
theorem aq.leaf{X:Nat->Prop}{w:World}(kind:Int)(t:ByteArray)(pos:Int):aq X w (.agg #[kind,t,.slice none 0 0,pos]) (.mk kind t [] pos):=
 ⟨none,0,[],rfl,gB _,⟨rfl,fun h=>absurd h (by simp)⟩,ae.nil⟩
theorem aq.of_slice{X:Nat->Prop}{w:World}{v:Value}{l:List Nd}(h:cS X w v l)(kind:Int)(t:ByteArray)(pos:Int):aq X w (.agg #[kind,t,v,pos]) (.mk kind t l pos):=by obtain⟨A,cap,xs,rfl,J,I,D⟩:=h;exact⟨A,cap,xs,rfl,J,I,D⟩
theorem cell_kept{w w':World}(hb:Below w w w'){a:Addr}{v:Value}(D:w.cell? a=some v):w'.cell? a=some v:=(hb.cell (gU w a D)).trans D
abbrev mD(a0 a1 a2 a3 a4:Addr)(v0 v1 v2 v3 v4:Value)(w:World):Prop:=w.cell? a0=some v0/\w.cell? a1=some v1/\w.cell? a2=some v2/\w.cell? a3=some v3/\w.cell? a4=some v4
section
variable {a0 a1 a2 a3 a4:Addr} {v0 v1 v2 v3 v4:Value} {w w':World}
theorem mD.below(h:mD a0 a1 a2 a3 a4 v0 v1 v2 v3 v4 w)(hb:Below w w w'):mD a0 a1 a2 a3 a4 v0 v1 v2 v3 v4 w':=
 ⟨cell_kept hb h.1,cell_kept hb h.2.1,cell_kept hb h.2.2.1,cell_kept hb h.2.2.2.1,cell_kept hb h.2.2.2.2⟩
theorem mD.drew(h:mD a0 a1 a2 a3 a4 v0 v1 v2 v3 v4 w):mD a0 a1 a2 a3 a4 v0 v1 v2 v3 v4 w.drew:=h.below (gC _ _).drew
theorem mD.alloc(h:mD a0 a1 a2 a3 a4 v0 v1 v2 v3 v4 w)(o:Obj):mD a0 a1 a2 a3 a4 v0 v1 v2 v3 v4 (w.alloc o):=h.below ((gC _ _).alloc (gB _) o)
theorem mD.far(h:mD a0 a1 a2 a3 a4 v0 v1 v2 v3 v4 w){p:Addr}(u:Value)(O:a0.block≠p.block)(M:a1.block≠p.block)(J:a2.block≠p.block)(I:a3.block≠p.block)(D:a4.block≠p.block):mD a0 a1 a2 a3 a4 v0 v1 v2 v3 v4 (w.setCell p u):=
 have k:∀(a:Addr)(v:Value),w.cell? a=some v->a.block≠p.block->(w.setCell p u).cell? a=some v:=fun a _ hc hn=>(jM (gF w p u a.block hn)).trans hc
 ⟨k _ _ h.1 O,k _ _ h.2.1 M,k _ _ h.2.2.1 J,k _ _ h.2.2.2.1 I,k _ _ h.2.2.2.2 D⟩
theorem mD.put(h:mD a0 a1 a2 a3 a4 v0 v1 v2 v3 v4 w)(g:Nat)(O:a0.block≠g)(M:a1.block≠g)(J:a2.block≠g)(I:a3.block≠g)(D:a4.block≠g)(a b c d:Value):
  mD a0 a1 a2 a3 a4 v0 v1 v2 v3 v4 ((((w.setCell ⟨g,0,none⟩ a).setCell ⟨g,1,none⟩ b).setCell ⟨g,2,none⟩ c).setCell ⟨g,3,none⟩ d):=
 (((h.far (p:=⟨g,0,none⟩) a O M J I D).far (p:=⟨g,1,none⟩) b O M J I D).far (p:=⟨g,2,none⟩) c O M J I D).far (p:=⟨g,3,none⟩) d O M J I D
theorem mD.grown{R:Nat}(h:mD a0 a1 a2 a3 a4 v0 v1 v2 v3 v4 w)(D:w.grownBy w' (some R))(q:a0.block≠R)(O:a1.block≠R)(M:a2.block≠R)(J:a3.block≠R)(I:a4.block≠R):mD a0 a1 a2 a3 a4 v0 v1 v2 v3 v4 w':=
 have k:∀(a:Addr)(v:Value),w.cell? a=some v->a.block≠R->w'.cell? a=some v:=fun a _ hc hn=>
  (jM (D.block a.block (gU w a hc) (fun e=>hn (by injection e)))).trans hc
 ⟨k _ _ h.1 q,k _ _ h.2.1 O,k _ _ h.2.2.1 M,k _ _ h.2.2.2.1 J,k _ _ h.2.2.2.2 I⟩
end
def cM(w:World)(g:Nat)(a b c d:Value):World:=(((w.setCell ⟨g,0,none⟩ a).setCell ⟨g,1,none⟩ b).setCell ⟨g,2,none⟩ c).setCell ⟨g,3,none⟩ d
theorem cJ{w:World}{g:Nat}{z0 z1 z2 z3:Value}(h:aa w g 41 #[z0,z1,z2,z3])(a b c d:Value):aa (cM w g a b c d) g 41 #[a,b,c,d]:=by unfold cM;have:=(((h.set_ 0 a).set_ 1 b).set_ 2 c).set_ 3 d;simpa using this
theorem dI{E:bC}{s:St}{w wk:World}{g:Nat}(h:au E s w wk)(D:w.heap.size<=g)(I:E.R<g)(a b c d:Value):au E s w (cM wk g a b c d):=
 (((h.own (p:=⟨g,0,none⟩) D I a).own (p:=⟨g,1,none⟩) D I b).own (p:=⟨g,2,none⟩) D I c).own (p:=⟨g,3,none⟩) D I d
theorem cA{X:Nat->Prop}{wk:World}{g:Nat}(D:∀b,X b->b≠g)(a b c d:Value):ak X wk (cM wk g a b c d):=
 ((((ak.refl X wk).setCell (p:=⟨g,0,none⟩) (fun h=>D g h rfl) a).setCell (p:=⟨g,1,none⟩) (fun h=>D g h rfl) b).setCell (p:=⟨g,2,none⟩) (fun h=>D g h rfl) c).setCell (p:=⟨g,3,none⟩) (fun h=>D g h rfl) d
theorem av{E:bC}{w wk:World}{res:d5 Nd}{n:Nd}{s:St}{X:Nat->Prop}{a0 a1 a2 a3 z0 z1 z2 z3:Value}{g q:Nat}{fn:Func}{a:Act}(O:res=.ok n s)
  (J:aq X wk (.agg #[a0,a1,a2,a3]) n)(h:au E s w wk)(hb:aa wk g 41 #[z0,z1,z2,z3])(x:w.heap.size<=g)(y:E.R<g)(I:∀b,X b->w.heap.size<=b/\b≠g)
  (D:fn.results = #[.cell q 41])(M:a.tmps.getD q undef=.pointer (some ⟨g,0,none⟩))(hd:a.defers=[]):
  bodyPost prog fn (ic E w res) .ret a (cM wk g a0 a1 a2 a3):=by refine jD (dx D _ M (cJ hb a0 a1 a2 a3)) hd ?_;rw[O];exact⟨⟨_,rfl,(J.kept (cA (fun b hb=>(I b hb).2) _ _ _ _)).mono fun b hb _=>(I b hb).1⟩,dI h x y _ _ _ _⟩
theorem af{E:bC}{w w1 w2:World}{res:d5 Nd}{p:Int}(D:res=.fail p)(J:w.grownBy w1 (some E.R))(I:w1.grownBy w2 (some E.R)):ic E w res (ag p) w2:=by rw[D];exact⟨rfl,J.trans I⟩
theorem ct{p:Program}{f:FuncId}{a:Array Value}{w b:World}{v:Value}{R:Ending->World->Prop}(J:Below b b w)(I:Calls p f a w fun e w'=>e=.returned v/\Below w w w')
 (k:∀w',Below w w w'->Below b b w'->R (.returned v) w'):Calls p f a w R:=I.mono fun _ _⟨D,hb⟩=>D▸k _ hb (aE J hb)
theorem cb{p:Program}{f:FuncId}{a:Array Value}{w:World}{v:Value}{Q:World->Prop}{R:Ending->World->Prop}(I:Calls p f a w fun e w'=>e=.returned v/\Q w')
 (k:∀w',Q w'->R (.returned v) w'):Calls p f a w R:=I.mono fun _ _⟨D,hb⟩=>D▸k _ hb
theorem c0{p:Program}{f:FuncId}{a:Array Value}{w:World}{v:Value}{Q:World->Prop}{R:Ending->World->Prop}(J:Calls p f a w fun e w'=>e=.returned v/\Q w')
 (k:R (.returned v) w)(D:∀w',Q w'->w=w':=by intro _ h;first|exact h|exact h.symm):Calls p f a w R:=J.mono fun _ _⟨I,hb⟩=>I▸D _ hb▸k
theorem fin{B P:Prop}(hb:B)(h:B->P:=by intro D;go_wp2_with fail;go_ret;exact⟨rfl,D⟩):P:=h hb
theorem IN(c b:UInt8)(l:List UInt8)(h:(b==c)=false):Lib.index (b::l) [c]=if Lib.index l [c] = -1 then -1 else Lib.index l [c]+1:=by rw[Lib.index_one,Lib.index_one,Lib.indexByte,h];simp
theorem CD(c b:UInt8)(l:List UInt8)(h:(b==c)=false):∀k,Lib.replaceK [c] [] k (b::l)=b::Lib.replaceK [c] [] k l
 |0=>rfl
 |k+1=>by
  have J:=Lib.index_ge l [c];rw[Lib.replaceK,Lib.replaceK,IN c b l h];by_cases I:Lib.index l [c] = -1
  ·rw[gL I,I];rfl
  ·rw[gE I];obtain⟨i,D⟩:∃i:Nat,Lib.index l [c]=i:=⟨(Lib.index l [c]).toNat,by omega⟩;rw[D,gE (by rw[beq_iff_eq];omega),gE (by rw[beq_iff_eq];omega)];rw[show((i:Int)+1).toNat=i+1 by omega,show((i:Int)).toNat=i by omega];show(b::l.take i)++[]++_=_;rw[show i+1+[c].length=(i+[c].length)+1 from rfl,List.drop_succ_cons];rfl
theorem ms(c:UInt8):∀(l:List UInt8)(k:Nat),l.count c<=k->Lib.replaceK [c] [] k l=l.filter fun x=>x != c
 |[],0,_=>rfl
 |[],k+1,_=>rfl
 |b::l,k,D=>by
  cases h:b==c with
  |true=>have hb:=eq_of_beq h;subst hb;rw[List.count_cons_self]at D;obtain⟨k,rfl⟩:∃j,k=j+1:=⟨k-1,by omega⟩;(have J:Lib.index (b::l) [b]=0:=by rw[Lib.index_one,Lib.indexByte];simp);rw[Lib.replaceK,J];show[]++[]++Lib.replaceK [b] [] k l=_;rw[ms b l k (by omega)];simp
  |false=>rw[CD c b l h k];rw[List.count_cons,h]at D;rw[ms c l k (by simpa using D)];(have I:(b != c)=true:=by simp[bne,h]);rw[List.filter_cons,I];rfl
theorem tN(c:UInt8)(l:List UInt8):Lib.replaceAll l [c] []=l.filter fun x=>x != c:=by unfold Lib.replaceAll Lib.replace;rw[gE (by simp)];refine ms c l _ ?_;unfold Lib.replaceNum;rw[gL (.inl (by decide)),Lib.count_one];exact gB _
theorem l8(c:UInt8):∀l:List UInt8,decide (Lib.indexByte l c<0) = !(l.any fun x=>x==c)
 |[]=>rfl
 | b::l=>by
  have ih:=l8 c l;have I:=Lib.indexByte_ge l c;rw[Lib.indexByte,List.any_cons];cases h:b==c with
  |true=>rfl
  |false=>
   rw[Bool.false_or,<-ih];simp only[gX,kK];rw[jW,jB,jB];by_cases D:Lib.indexByte l c = -1
   ·rw[D];simp
   ·rw[gE (by simpa using D)];omega
theorem IP(x c:UInt8):(x==c)=(x.toNat==c.toNat):=by rw[jW,beq_iff_eq,beq_iff_eq];exact⟨fun h=>by rw[h],fun h=>UInt8.toNat_inj.mp h⟩
end
section
open Go.RowKit Go.Lib Go.Proofs
attribute [local go_sem ↓] Go.wp_at_zero Go.wp_at_succ
attribute [local go_sem] aK aL aM aZ a6 a7 a8
theorem Mz(E:bC)(F:eQ)(hF:mC E F)(B:Nat)(w0:World)(hB:aa w0 B 112 #[E.R])(gd:B≠E.R):
  eu E 295 #[B] (mb F) w0:=by
 intro w s hw h hno;generalize hres:mb F E.c s=res at *;have D:=hid hres;have gi:=hid hno;have q:=hB.grown hw (fun e=>gd (by injection e));have b0:=q.cell 0;have gk:=q.lt;have y:=h.lt;simp at b0;clear hres hno hB hw;(go_enter func295,ntmps295);go_wp2_with fail;refine(bh E s _ (h.alloc _)).mono ?_;unfold eR;rintro e w1⟨rfl,M⟩;have I:=((bX.refl h).alloc _).step M;have gb:=(aa.new w 41 bg).below M (by simp);have b1:=((q.alloc _).below M (by simp;omega)).cell 0;simp at b1;clear M;go_wp2_with fail;cases O:F.typ E.c s with
 |out=>exact absurd D.out.symm (by rw[mb,O];exact gi.out)
 |fail p=>refine(hF.typ w1 s I.rd (by rw[O];exact nofun)).mono ?_;rw[O];rintro e w2⟨rfl,gh⟩;unfold ag;exact⟨rfl,af (by rw[<-D.out,mb,O];rfl) I.moved.gr gh⟩
 |ok n s1=>have HF:Hid (res=.ok (.mk 8 ⟨#[]⟩ [n] (ar E.c s)) s1):=hid (by rw[<-D.out,mb,O];rfl);refine(hF.typ w1 s I.rd (by rw[O];exact nofun)).mono ?_;rw[O];rintro e w2⟨⟨v,rfl,hv⟩,x⟩;obtain⟨A,cp,rfl,hC⟩:=hv.toC;have ga:=gb.grown x.gr;have gj:=gb.lt;have gg:=ga.lt;clear O D;go_wp2_with fail;refine(aI _ _ _ _ _ ⟨_,_,_,rfl⟩).mono ?_;rintro e w3⟨rfl,J⟩;have hV:=aq.make 1 rfl (ae.one hC) 8 ⟨#[]⟩ (ar E.c s) J;have z:=(ga.alloc _).below J (by simp;omega);have ge:=((I.moved.trans x).alloc _).step J;obtain⟨d0,d1,d2,d3,e0,e1,e2,e3⟩:=ah z;clear J;go_wp2_with fail;refine av HF.out hV ge z (gB _) y ?_ rfl (by rfl) rfl;rintro b(⟨hb,_⟩|rfl)<;>constructor<;>omega
theorem G2(E:bC)(F:eQ)(hF:mC E F)(B:Nat)(w0:World)(hB:aa w0 B 112 #[E.R])(z:B≠E.R):
  eu E 199 #[B] (eI F) w0:=by
 intro w s hw h hno;generalize hres:eI F E.c s=res at *;have D:=hid hres;have gp:=hid hno;have y:=hB.grown hw (fun e=>z (by injection e));have b0:=y.cell 0;have gs:=y.lt;have gb:=h.lt;simp at b0;clear hres hno hB hw;(go_enter func199,ntmps199);go_wp2_with fail;refine(bh E s _ (h.alloc _)).mono ?_;unfold eR;rintro e w1⟨rfl,O⟩;have J:=((bX.refl h).alloc _).step O;have x:=(aa.new w 41 bg).below O (by simp);have gh:=(y.alloc _).below O (by simp;omega);have b1:=gh.cell 0;simp at b1;clear O;go_wp2_with fail;by_cases hK:(aj E.c s.at_).kind=1
 ·have HK:=hid hK;refine(fK E s w1 J.rd hK).mono ?_;rintro e w2⟨rfl,I⟩;have gg:=x.grown I.gr;have b2:=(gh.grown I.gr (fun e=>z (by injection e))).cell 0;simp at b2;have gl:=x.lt;clear hK;go_wp2_with fail;cases q:F.typ E.c (am s)with
  |out=>exact absurd D.out.symm (by rw[eI,bV,gL HK.out,d5.bind_ok,q];exact gp.out)
  |fail p=>refine(hF.typ w2 (am s) I.rd (by rw[q];exact nofun)).mono ?_;rw[q];rintro e w3⟨rfl,gm⟩;unfold ag;exact⟨rfl,af (by rw[<-D.out,eI,bV,gL HK.out,d5.bind_ok,q];rfl) (J.moved.trans I).gr gm⟩
  |ok n s1=>have HF:Hid (res=.ok (.mk 8 (aj E.c s.at_).text [n] (ar E.c s)) s1):=hid (by rw[<-D.out,eI,bV,gL HK.out,d5.bind_ok,q];rfl);refine(hF.typ w2 (am s) I.rd (by rw[q];exact nofun)).mono ?_;rw[q];rintro e w3⟨⟨v,rfl,hv⟩,ga⟩;obtain⟨A,cp,rfl,hC⟩:=hv.toC;have ge:=gg.grown ga.gr;have gq:=x.lt;have gk:=gg.lt;have gj:=ge.lt;have gt:=I.gr.size;clear q D HK;go_wp2_with fail;refine(aI _ _ _ _ _ ⟨_,_,_,rfl⟩).mono ?_;rintro e w4⟨rfl,M⟩;have hV:=aq.make 1 rfl (ae.one hC) 8 (aj E.c s.at_).text (ar E.c s) M;have gd:=(ge.alloc _).below M (by simp;omega);have gi:=((J.moved.trans (I.trans ga)).alloc _).step M;obtain⟨d0,d1,d2,d3,e0,e1,e2,e3⟩:=ah gd;clear M;go_wp2_with fail;refine av HF.out hV gi gd (gB _) gb ?_ rfl (by rfl) rfl;rintro b(⟨hb,_⟩|rfl)<;>constructor<;>omega
 ·refine(lj E s w1 J.rd hK).mono ?_;rintro e w2⟨rfl,gn⟩;unfold ag;exact⟨rfl,af (by rw[<-D.out,eI,bV,gE hK];rfl) J.moved.gr (ac _ gn)⟩
theorem uj(E:bC)(F:eQ)(gd:dp E (dv F) 198)(B:Nat)(w0:World)(hB:aa w0 B 112 #[E.R])(z:B≠E.R):
  eu E 197 #[B] (de F) w0:=by
 intro w s hw h hno;generalize hres:de F E.c s=res at *;have D:=hid hres;have gq:=hid hno;have y:=hB.grown hw (fun e=>z (by injection e));have b0:=y.cell 0;have gt:=y.lt;have gb:=h.lt;simp at b0;clear hres hno hB hw;(go_enter func197,ntmps197);go_wp2_with fail;refine(bh E s _ (h.alloc _)).mono ?_;unfold eR;rintro e w1⟨rfl,O⟩;have J:=((bX.refl h).alloc _).step O;have x:=(aa.new w 41 bg).below O (by simp);have gi:=(y.alloc _).below O (by simp;omega);have b1:=gi.cell 0;simp at b1;clear O;go_wp2_with fail;by_cases hK:(aj E.c s.at_).kind=1
 ·have HK:=hid hK;refine(fK E s w1 J.rd hK).mono ?_;rintro e w2⟨rfl,I⟩;have gh:=x.grown I.gr;have b2:=(gi.grown I.gr (fun e=>z (by injection e))).cell 0;simp at b2;have gm:=x.lt;clear hK;go_wp2_with fail;cases q:dv F E.c (am s)with
  |out=>exact absurd D.out.symm (by rw[de,bV,gL HK.out,d5.bind_ok,q];exact gq.out)
  |fail p=>refine(gd w2 (am s) I.rd (by rw[q];exact nofun)).mono ?_;rw[q];rintro e w3⟨rfl,gn⟩;unfold ag;exact⟨rfl,af (by rw[<-D.out,de,bV,gL HK.out,d5.bind_ok,q];rfl) (J.moved.trans I).gr gn⟩
  |ok n s1=>have HF:Hid (res=.ok (.mk 7 (aj E.c s.at_).text [n] (ar E.c s)) s1):=hid (by rw[<-D.out,de,bV,gL HK.out,d5.bind_ok,q];rfl);refine(gd w2 (am s) I.rd (by rw[q];exact nofun)).mono ?_;rw[q];rintro e w3⟨⟨v,rfl,hv⟩,ga⟩;obtain⟨A,cp,rfl,hC⟩:=hv.toC;have gg:=gh.grown ga.gr;have gs:=x.lt;have gl:=gh.lt;have gk:=gg.lt;have gu:=I.gr.size;clear q D HK;go_wp2_with fail;refine(aI _ _ _ _ _ ⟨_,_,_,rfl⟩).mono ?_;rintro e w4⟨rfl,M⟩;have hV:=aq.make 1 rfl (ae.one hC) 7 (aj E.c s.at_).text (ar E.c s) M;have ge:=(gg.alloc _).below M (by simp;omega);have gj:=((J.moved.trans (I.trans ga)).alloc _).step M;obtain⟨d0,d1,d2,d3,e0,e1,e2,e3⟩:=ah ge;clear M;go_wp2_with fail;refine av HF.out hV gj ge (gB _) gb ?_ rfl (by rfl) rfl;rintro b(⟨hb,_⟩|rfl)<;>constructor<;>omega
 ·refine(lj E s w1 J.rd hK).mono ?_;rintro e w2⟨rfl,gp⟩;unfold ag;exact⟨rfl,af (by rw[<-D.out,de,bV,gE hK];rfl) J.moved.gr (ac _ gp)⟩
theorem uk(E:bC)(F:eQ)(hF:mC E F):dp E (dm F) 201:=by
 intro w s h hno;generalize hres:dm F E.c s=res at *;have D:=hid hres;have ga:=hid hno;have M:=h.lt;clear hres hno;(go_enter func201,ntmps201);go_wp2_with fail;refine(Fl E s _ (h.alloc _)).mono ?_;rintro e w1⟨rfl,q⟩;have I:=((bX.refl h).alloc _).step q.bel;have J:=(aa.new w 41 bg).below q.bel (by simp);have gb:=J.lt;clear q;cases hT:AC E.c s with
 |false=>have HF:Hid (res=.ok cj s):=hid (by rw[<-D.out,dm,hT];rfl);obtain⟨d0,d1,d2,d3,e0,e1,e2,e3⟩:=ah J;go_wp2_with fail;refine av (X:=fun _=>False) HF.out aq.zero I.moved J (gB _) M ?_ rfl (by rfl) rfl;exact fun _ h=>h.elim
 |true=>
  go_wp2_with fail;cases O:F.typ E.c s with
  |out=>exact absurd D.out.symm (by rw[dm,hT,gL rfl,O];exact ga.out)
  |fail p=>refine(hF.typ w1 s I.rd (by rw[O];exact nofun)).mono ?_;rw[O];rintro e w2⟨rfl,z⟩;unfold ag;exact⟨rfl,af (by rw[<-D.out,dm,hT,gL rfl,O]) I.moved.gr z⟩
  |ok n s1=>have HF:Hid (res=.ok n s1):=hid (by rw[<-D.out,dm,hT,gL rfl,O]);refine(hF.typ w1 s I.rd (by rw[O];exact nofun)).mono ?_;rw[O];rintro e w2⟨⟨v,rfl,hv⟩,x⟩;obtain⟨A,cp,rfl,hC⟩:=hv.toC;have y:=J.grown x.gr;obtain⟨d0,d1,d2,d3,e0,e1,e2,e3⟩:=ah y;clear O D;go_wp2_with fail;refine av HF.out hv (I.moved.trans x) y (gB _) M ?_ rfl (by rfl) rfl;intro b hb;constructor<;>omega
theorem G3(a:Array Value)(w:World):(callFunc 295 a).run prog w=.ok (.enter 295 a) w:=by kernel_rfl
theorem Fm(a:Array Value)(w:World):(callFunc 199 a).run prog w=.ok (.enter 199 a) w:=by kernel_rfl
def Ps(part:R Nd)(F:eQ)(p:Int):R Nd:=fun c s=>
 (need ⟨#[40]⟩ c s).bind fun _ s1=>(aU part ⟨#[41]⟩ F.g [] c s1).bind fun l s2=>
 (dm F c s2).bind fun r s3=>.ok (.mk 12 ⟨#[]⟩ [.mk 6 ⟨#[]⟩ l (ar c s),r] p) s3
theorem yF(E:bC)(F:eQ)(hF:mC E F)(p:Int)(w:World)(s:St)(h:aH E w s):
  (cN F p E.c s≠.out->Calls prog 263 #[E.R,p] w (ic E w (cN F p E.c s))) /\
  (nX F p E.c s≠.out->Calls prog 142 #[E.R,p] w (ic E w (nX F p E.c s))):=by
 have h3:=h.lt;refine⟨fun x=>?_,fun x=>?_⟩;generalize hres:cN F p E.c s=res at *;have M:Hid (Ps (mb F) F p E.c s=res):=hid hres;have gz:=hid G3;have gx:=hid (Mz E F hF);have gy:=hid x;generalize mb F=part at *;clear hres x;go_enter func263,ntmps263
 rotate_left
 generalize hres:nX F p E.c s=res at *;have M:Hid (Ps (eI F) F p E.c s=res):=hid hres;have gz:=hid Fm;have gx:=hid (G2 E F hF);have gy:=hid x;generalize eI F=part at *;clear hres x;(go_enter func142,ntmps142);all_goals
  go_wp2_with fail;have hm:aa ((w.alloc (.cells #[E.R] 112)).alloc (.cells bg 41)) w.heap.size 112 #[E.R]:=(aa.new w _ _).alloc _;(have hi:aa ((w.alloc (.cells #[E.R] 112)).alloc (.cells bg 41)) (w.heap.size+1) 41 bg:=by have:=aa.new (w.alloc (.cells #[E.R] 112)) 41 bg;simpa using this);refine(bh E s _ ((h.alloc _).alloc _)).mono ?_;unfold eR;rintro e w1⟨rfl,gj⟩;have gg:=(((bX.refl h).alloc _).alloc _).step gj;have gw:=hi.below gj (by simp);have gn:=hm.below gj (by simp;omega);have b1:=gn.cell 0;simp at b1;clear gj hi hm;go_wp2_with fail;cases hA:aR E.c s ⟨#[40]⟩with
  |false=>refine(dN E s _ w1 gg.rd hA).mono ?_;rintro e w2⟨rfl,hy⟩;unfold ag;exact⟨rfl,af (by rw[<-M.out,Ps,need];simp[hA]) gg.moved.gr (ac _ hy)⟩
  | true=>
   have gp:=hid (show((aU (part) ⟨#[41]⟩ F.g [] E.c (am s)).bind fun l s2=>(dm F E.c s2).bind fun r s3=>.ok (.mk 12 ⟨#[]⟩ [.mk 6 ⟨#[]⟩ l (ar E.c s),r] p) s3)=res by rw[<-M.out,Ps,need];simp only[hA,kS,d5.bind_ok]);refine(cW E s _ w1 gg.rd hA).mono ?_;rintro e w2⟨rfl,gb⟩;have hh:=gw.grown gb.gr;have hl:=gn.grown gb.gr;have gq:=gg.moved.trans gb;have h6:=gn.lt;have h5:=gw.lt;have jc:=gb.gr.size;clear M hA gb gw gn b1;go_wp2_with fail;refine(aI _ _ _ _ _ ⟨_,_,_,rfl⟩).mono ?_;rintro e D⟨rfl,gd⟩;have g8:=gq.step gd;have gv:=hh.below gd (by omega);have gm:=hl.below gd (by omega);have b3:=gm.cell 0;simp at b3;have jb:=gd.size;have ht:=gv.lt;have gt:=gm.lt;have hq:=ve gt;clear gd hh hl gq;go_wp2_with fail;have ga:=g8.alloc (.cells #[.int .i64 6,.string ⟨#[]⟩,.slice none 0 0,.int .i64 (ar E.c s)] 41);have gl:=gm.alloc (.cells #[.int .i64 6,.string ⟨#[]⟩,.slice none 0 0,.int .i64 (ar E.c s)] 41);have hg:=gv.alloc (.cells #[.int .i64 6,.string ⟨#[]⟩,.slice none 0 0,.int .i64 (ar E.c s)] 41);have ha:=aa.new D 41 #[.int .i64 6,.string ⟨#[]⟩,.slice none 0 0,.int .i64 (ar E.c s)];(have ja:(D.alloc (.cells #[.int .i64 6,.string ⟨#[]⟩,.slice none 0 0,.int .i64 (ar E.c s)] 41)).heap.size=D.heap.size+1:=by simp);(have y:w.heap.size≠E.R:=by omega);clear g8 gm gv;cases hR:aU (part) ⟨#[41]⟩ F.g [] E.c (am s)with
   |out=>exact absurd gp.out.symm (by rw[hR];exact gy.out)
   |fail q=>refine(lk E _ #[] #[w] (part) ⟨#[41]⟩ F.g (am s) _ ga.rd gz.out (gx.out w.heap.size _ gl y) (by rw[hR];exact nofun) hF.g).mono ?_;rw[hR];rintro e w5⟨rfl,hw⟩;unfold ag;exact⟨rfl,af (by rw[<-gp.out,hR];rfl) ga.gr hw⟩
   | ok l s2=>
    have ge:=hid (show(dm F E.c s2).bind (fun r s3=>.ok (.mk 12 ⟨#[]⟩ [.mk 6 ⟨#[]⟩ l (ar E.c s),r] p) s3)=res by rw[<-gp.out,hR];rfl);refine(lk E _ #[] #[w] (part) ⟨#[41]⟩ F.g (am s) _ ga.rd gz.out (gx.out w.heap.size _ gl y) (by rw[hR];exact nofun) hF.g).mono ?_;rw[hR];rintro e w5⟨⟨v,rfl,hv⟩,z⟩;obtain⟨A,cp,xs,rfl,g6,g5,g4⟩:=hv;have gk:=ha.grown z.gr;have hf:=hg.grown z.gr;have hj:=gl.grown z.gr;obtain⟨l0,l1,l2,l3,f0,f1,f2,f3⟩:=ah gk;have h4:=gk.lt;clear hR gp ha hg gl;go_wp2_with fail;(have g9:aa (w5.setCell ⟨D,2,none⟩ (.slice A l.length cp)) D.heap.size 41 #[.int .i64 6,.string ⟨#[]⟩,.slice A l.length cp,.int .i64 (ar E.c s)]:=by simpa using gk.set_ 2 (.slice A l.length cp));have he:=hf.far (p:=⟨D,2,none⟩) (by show w.heap.size+1≠D.heap.size;omega) (.slice A l.length cp);have h0:=hj.far (p:=⟨D,2,none⟩) (by show w.heap.size≠D.heap.size;omega) (.slice A l.length cp);have gh:=(ga.trans z).own (p:=⟨D,2,none⟩) (by show w.heap.size<=D.heap.size;omega) (by show E.R<D.heap.size;omega) (.slice A l.length cp);(have ho:cS (fun b=>D.heap.size+1<=b) (w5.setCell ⟨D,2,none⟩ (.slice A l.length cp)) (.slice A l.length cp) l:=by have hk:ak (fun b=>D.heap.size+1<=b) w5 (w5.setCell ⟨D,2,none⟩ (.slice A l.length cp)):=(ak.refl _ _).setCell (fun h=>by simp at h;omega) _;have hp:cS (fun b=>D.heap.size+1<=b) w5 (.slice A l.length cp) l:=⟨A,cp,xs,rfl,g6,by simpa using g5,by simpa using g4⟩;exact hp.kept hk);(have h8:w5.heap.size<=(w5.setCell ⟨D,2,none⟩ (.slice A l.length cp)).heap.size:=by simp);clear gk hf hj z ga l0 l1 l2 l3 f0 f1 f2 f3 g6 g5 g4;generalize w5.setCell ⟨D,2,none⟩ (.slice A l.length cp)=w6 at *;obtain⟨l0,l1,l2,l3,f0,f1,f2,f3⟩:=ah g9;have b6:=h0.cell 0;simp at b6;have gs:=g9.lt;have h2:=ve gs;(have I:E.R≠D.heap.size:=by omega);cases hP:dm F E.c s2 with
    |out=>exact absurd ge.out.symm (by rw[hP];exact gy.out)
    |fail q=>have HC:=hid (fun W(hr:aH E W s2)=>uk E F hF W s2 hr (by rw[hP];exact nofun));have HF:Hid (res=.fail q):=hid (by rw[<-ge.out,hP];rfl);rw[hP]at HC;clear ge hP;have s6:mD ⟨D,0,none⟩ ⟨D,1,none⟩ ⟨D,2,none⟩ ⟨D,3,none⟩ ⟨w,0,none⟩ (.int .i64 6) (.string ⟨#[]⟩) (.slice A l.length cp) (.int .i64 (ar E.c s)) (.pointer (some ⟨E.R,0,none⟩)) w6:=⟨l0,l1,l2,l3,b6⟩;let SS:World->Prop:=fun w'=>w'.cell? ⟨D,0,none⟩=some (.int .i64 6)/\w'.cell? ⟨D,1,none⟩=some (.string ⟨#[]⟩)/\w'.cell? ⟨D,2,none⟩=some (.slice A l.length cp)/\w'.cell? ⟨D,3,none⟩=some (.int .i64 (ar E.c s))/\w'.cell? ⟨w,0,none⟩=some (.pointer (some ⟨E.R,0,none⟩));have h1:SS w6.drew:=s6.drew;(refine jS (S:=SS) (by kernel_rfl) h1 ?_;intro gu;refine dF 0 gu ?_;refine dF 1 gu ?_;refine dF 2 gu ?_;refine yd 3 fun K hK=>?_;go_simp);refine(HC.out _ (gh.drew).rd).mono ?_;rintro e w7⟨rfl,hu⟩;unfold ag;exact⟨rfl,af HF.out gh.drew.gr hu⟩
    | ok n s3=>
     have HC:=hid (fun W(hr:aH E W s2)=>uk E F hF W s2 hr (by rw[hP];exact nofun));have HF:Hid (res=.ok (.mk 12 ⟨#[]⟩ [.mk 6 ⟨#[]⟩ l (ar E.c s),n] p) s3):=hid (by rw[<-ge.out,hP];rfl);rw[hP]at HC;clear ge hP;(have J:D.heap.size≠w.heap.size+1:=by omega);(have g7:w.heap.size≠w.heap.size+1:=by omega);have s6:mD ⟨D,0,none⟩ ⟨D,1,none⟩ ⟨D,2,none⟩ ⟨D,3,none⟩ ⟨w,0,none⟩ (.int .i64 6) (.string ⟨#[]⟩) (.slice A l.length cp) (.int .i64 (ar E.c s)) (.pointer (some ⟨E.R,0,none⟩)) w6:=⟨l0,l1,l2,l3,b6⟩;go_region_held3 (fun w'=>w'.cell? ⟨D,0,none⟩=some (.int .i64 6)/\w'.cell? ⟨D,1,none⟩=some (.string ⟨#[]⟩)/\w'.cell? ⟨D,2,none⟩=some (.slice A l.length cp)/\w'.cell? ⟨D,3,none⟩=some (.int .i64 (ar E.c s))/\w'.cell? ⟨w,0,none⟩=some (.pointer (some ⟨E.R,0,none⟩)))
      (first|with_reducible exact s9 _ _ _ _|with_reducible exact s8|with_reducible exact s7.alloc _|with_reducible exact s7|with_reducible exact s6.drew)
      (first
       |(go_at_call 201;refine(HC.out _ (gh.drew).rd).mono ?_;rintro e w7⟨⟨v,rfl,hv⟩,O⟩;obtain⟨An,cn,rfl,hC⟩:=hv.toC;have hs:=gh.drew.trans O;have s7:=s6.drew.grown O.gr I.symm I.symm I.symm I.symm y)
       |(go_at_call 91;refine(aI _ _ _ _ _ ⟨_,_,_,rfl⟩).mono ?_;rintro e w8⟨rfl,gi⟩;have s8:=(s7.alloc _).below gi;have s9:=s8.put (w.heap.size+1) J J J J g7;have hc:=((he.drew.grown O.gr).alloc _).below gi (by have:=(he.drew.grown O.gr).lt;simp;omega);obtain⟨g0,g1,g2,g3,k0,k1,k2,k3⟩:=ah hc))
     (all_goals go_wp2_with fail);have h9:=O.gr.size;have h7:w6.drew.heap.size=w6.heap.size:=rfl;have hn:=(ho.kept ((ak.refl _ _).drew.trans (ak.of_grown O.gr (fun g e hX=>by injection e with e;subst e;omega)))).mono (Y:=fun b=>D.heap.size+1<=b) (fun b hb _=>hb);obtain⟨AL,cL,eL,hz⟩:=(aq.of_slice hn 6 ⟨#[]⟩ (ar E.c s)).toC;simp only[Nd.kids_mk,Nd.kind_mk,Nd.text_mk,Nd.pos_mk,Value.agg.injEq,Array.mk.injEq,vk,Value.slice.injEq,true_and,xu]at eL;obtain⟨rfl,rfl⟩:=eL;have hV:=aq.make 2 rfl (ae.cons hz (ae.one (hC.mono (Y:=fun b=>D.heap.size+1<=b) fun b hb _=>by omega))) 12 ⟨#[]⟩ p gi;refine av HF.out hV ((hs.alloc _).step gi) hc (by omega) (by omega) ?_ rfl (by rfl) rfl;rintro b(⟨hb,_⟩|rfl)<;>constructor<;>omega
theorem mV(E:bC)(F:eQ)(hF:mC E F)(p:Int)(w:World)(s:St)(h:aH E w s)(D:cN F p E.c s≠.out):
 Calls prog 263 #[E.R,p] w (ic E w (cN F p E.c s)):=(yF E F hF p w s h).1 D
theorem iB(E:bC)(F:eQ)(hF:mC E F)(p:Int)(w:World)(s:St)(h:aH E w s)(D:nX F p E.c s≠.out):
 Calls prog 142 #[E.R,p] w (ic E w (nX F p E.c s)):=(yF E F hF p w s h).2 D
theorem yG(a:Array Value)(w:World):(callFunc 200 a).run prog w=.ok (.enter 200 a) w:=by kernel_rfl
theorem MA(E:bC)(F:eQ)(hF:mC E F):dp E (AD F) 200:=by
 intro w s h hno;generalize gb:AD F E.c s=res at *;have M:=hid gb;have gu:=hid hno;have gd:=h.lt;have h0:=h.most;clear gb hno;(go_enter func200,ntmps200);go_wp2_with fail;refine(bh E s _ (h.alloc _)).mono ?_;unfold eR;rintro e w1⟨rfl,hi⟩;have gw:=((bX.refl h).alloc _).step hi;have g6:=(aa.new w 41 bg).below hi (by simp);have gz:=g6.lt;clear hi;go_wp2_with fail;cases hA:aR E.c s ⟨#[40]⟩with
 | true=>
  have HE:=hid (show(F.typ E.c (am s)).bind (fun t s1=>(need ⟨#[41]⟩ E.c s1).bind fun _ s2=>.ok t s2)=res by rw[<-M.out,AD,gL hA]);refine(aS E s _ w1 gw.rd hA).mono ?_;rintro e w2⟨rfl,gp⟩;have gt:=g6.grown gp.gr;have hl:=gw.moved.trans gp;have jg:=gp.gr.size;clear M hA;go_wp2_with fail;cases J:F.typ E.c (am s)with
  |out=>exact absurd HE.out.symm (by rw[J];exact gu.out)
  |fail p=>refine(hF.typ w2 (am s) gp.rd (by rw[J];exact nofun)).mono ?_;rw[J];rintro e w3⟨rfl,h5⟩;unfold ag;exact⟨rfl,af (by rw[<-HE.out,J];rfl) hl.gr h5⟩
  |ok n s1=>
   have I:=hid (show(need ⟨#[41]⟩ E.c s1).bind (fun _ s2=>.ok n s2)=res by rw[<-HE.out,J];rfl);refine(hF.typ w2 (am s) gp.rd (by rw[J];exact nofun)).mono ?_;rw[J];rintro e w3⟨⟨v,rfl,hv⟩,y⟩;obtain⟨A,cp,rfl,hC⟩:=hv.toC;have gm:=gt.grown y.gr;have z:=(hl.trans y).alloc (.cells (nv n A cp) 41);have hy:=y.gr.size;have h2:=y.rd.lt;clear J HE y gp hl;go_wp2_with fail;cases hD:aR E.c s1 ⟨#[41]⟩with
   |false=>refine(dN E s1 _ _ z.rd hD).mono ?_;rintro e w4⟨rfl,hh⟩;unfold ag;exact⟨rfl,af (by rw[<-I.out,need];simp[hD]) z.gr (ac _ hh)⟩
   |true=>have HF:=hid (show res=.ok n (am s1)by rw[<-I.out,need];simp[hD]);refine(cW E s1 _ _ z.rd hD).mono ?_;rintro e w4⟨rfl,D⟩;have h7:=(aa.new w3 41 (nv n A cp)).grown D.gr;have ga:=(gm.alloc _).grown D.gr;obtain⟨x0,x1,x2,x3,_,_,_,_⟩:=ah h7;obtain⟨d0,d1,d2,d3,e0,e1,e2,e3⟩:=ah ga;clear hD I;go_wp2_with fail;refine av HF.out (hv.kept (((ak.refl _ _).alloc _).trans (ak.of_grown D.gr (fun g e hX=>by injection e with e;subst e;omega)))) (z.trans D) ga (gB _) gd ?_ rfl (by rfl) rfl;intro b hb;constructor<;>omega
 | false=>
  refine(aW E s _ w1 gw.rd hA).mono ?_;rintro e w2⟨rfl,gi⟩;have gt:=g6.below gi.bel gz;replace gi:=gw.step gi.bel;have gy:=gt.lt;clear gw g6 gz;go_wp2_with fail;cases hB:aR E.c s ⟨#[91]⟩with
  | true=>
   have HE:=hid (show(need ⟨#[93]⟩ E.c (am s)).bind (fun _ s1=>(F.typ E.c s1).bind fun t s2=>.ok (.mk 11 ⟨#[]⟩ [t] (ar E.c s)) s2)=res by rw[<-M.out,AD];simp only[hA,hB,gX,kK,kS]);refine(aS E s _ w2 gi.rd hB).mono ?_;rintro e w3⟨rfl,y⟩;have gm:=gt.grown y.gr;have z:=gi.moved.trans y;have hy:=y.gr.size;clear M hA hB;go_wp2_with fail;cases hD:aR E.c (am s) ⟨#[93]⟩with
   |false=>refine(dN E (am s) _ _ z.rd hD).mono ?_;rintro e w4⟨rfl,hh⟩;unfold ag;exact⟨rfl,af (by rw[<-HE.out,need];simp[hD]) z.gr (ac _ hh)⟩
   |true=>
    have I:=hid (show(F.typ E.c (am (am s))).bind (fun t s2=>.ok (.mk 11 ⟨#[]⟩ [t] (ar E.c s)) s2)=res by rw[<-HE.out,need];simp only[hD,kS,d5.bind_ok]);refine(cW E (am s) _ _ z.rd hD).mono ?_;rintro e w4⟨rfl,D⟩;have ga:=gm.grown D.gr;have gs:=z.trans D;have hw:=D.gr.size;clear hD HE z;go_wp2_with fail;cases J:F.typ E.c (am (am s))with
    |out=>exact absurd I.out.symm (by rw[J];exact gu.out)
    |fail p=>refine(hF.typ w4 _ D.rd (by rw[J];exact nofun)).mono ?_;rw[J];rintro e w5⟨rfl,hg⟩;unfold ag;exact⟨rfl,af (by rw[<-I.out,J];rfl) gs.gr hg⟩
    |ok n s2=>have HF:Hid (res=.ok (.mk 11 ⟨#[]⟩ [n] (ar E.c s)) s2):=hid (by rw[<-I.out,J];rfl);refine(hF.typ w4 _ D.rd (by rw[J];exact nofun)).mono ?_;rw[J];rintro e w5⟨⟨v,rfl,hv⟩,O⟩;obtain⟨A,cp,rfl,hC⟩:=hv.toC;have gl:=ga.grown O.gr;have g2:=gs.trans O;have hu:=O.gr.size;have h3:=gl.lt;clear J I D y gs;go_wp2_with fail;refine(aI _ _ _ _ _ ⟨_,_,_,rfl⟩).mono ?_;rintro e w6⟨rfl,ge⟩;have hV:=aq.make 1 rfl (ae.one hC) 11 ⟨#[]⟩ (ar E.c s) ge;have g5:=(gl.alloc _).below ge (by simp;omega);have hk:=(g2.alloc _).step ge;obtain⟨d0,d1,d2,d3,e0,e1,e2,e3⟩:=ah g5;clear ge;go_wp2_with fail;refine av HF.out hV hk g5 (gB _) gd ?_ rfl (by rfl) rfl;rintro b(⟨hb,_⟩|rfl)<;>constructor<;>omega
  | false=>
   refine(aW E s _ w2 gi.rd hB).mono ?_;rintro e w3⟨rfl,gh⟩;have gm:=gt.below gh.bel gy;replace gh:=gi.step gh.bel;have gx:=gm.lt;clear gi gt gy;go_wp2_with fail;cases hK:aR E.c s ⟨#[102,117,110,99]⟩with
   |true=>
    have HE:Hid (cN F (ar E.c s) E.c (am s)=res):=hid (by rw[<-M.out,AD];simp only[hA,hB,hK,gX,kK,kS]);refine(aS E s _ w3 gh.rd hK).mono ?_;rintro e w4⟨rfl,D⟩;have ga:=gm.grown D.gr;have gs:=gh.moved.trans D;have hw:=D.gr.size;clear M hA hB hK;go_wp2_with fail;refine(mV E F hF _ w4 (am s) D.rd (by rw[show cN F (aj E.c s.at_).pos E.c (am s)=res from HE.out];exact gu.out)).mono ?_;rw[show cN F (aj E.c s.at_).pos E.c (am s)=res from HE.out];cases gb:res with
    |out=>exact absurd gb gu.out
    |fail p=>rintro e w5⟨rfl,hg⟩;unfold ag;exact⟨rfl,af rfl gs.gr hg⟩
    |ok n s2=>rintro e w5⟨⟨v,rfl,hv⟩,O⟩;obtain⟨A,cp,rfl,hC⟩:=hv.toC;have gl:=ga.grown O.gr;obtain⟨d0,d1,d2,d3,e0,e1,e2,e3⟩:=ah gl;have HF:=hid gb;clear HE gb gu;go_wp2_with fail;refine av HF.out hv (gs.trans O) gl (gB _) gd ?_ rfl (by rfl) rfl;intro b hb;constructor<;>omega
   | false=>
    refine(aW E s _ w3 gh.rd hK).mono ?_;rintro e w4⟨rfl,gg⟩;have ga:=gm.below gg.bel gx;replace gg:=gh.step gg.bel;have h4:=ga.lt;have HE:=hid (show(bV E.c s).bind (fun x s1=>if aR E.c s1 ⟨#[91]⟩ && !dG E.c s1 then(aU F.typ ⟨#[93]⟩ F.g [] E.c (am s1)).bind fun l s2=>if l.length=0 then .fail (ar E.c s2)else .ok (.mk 10 x l (ar E.c s)) s2 else .ok (.mk 10 x [] (ar E.c s)) s1)=res by rw[<-M.out,AD];simp only[hA,hB,hK,gX,kK]);clear gh gm gx hA hB hK M;go_wp2_with fail;by_cases hN:(aj E.c s.at_).kind=1
    case neg=>refine(lj E s w4 gg.rd hN).mono ?_;rintro e w5⟨rfl,h6⟩;unfold ag;exact⟨rfl,af (by rw[<-HE.out,bV,gE hN];rfl) gg.moved.gr (ac _ h6)⟩
    have I:=hid (show(if aR E.c (am s) ⟨#[91]⟩ && !dG E.c (am s)then(aU F.typ ⟨#[93]⟩ F.g [] E.c (am (am s))).bind fun l s2=>if l.length=0 then .fail (ar E.c s2)else .ok (.mk 10 (aj E.c s.at_).text l (ar E.c s)) s2 else .ok (.mk 10 (aj E.c s.at_).text [] (ar E.c s)) (am s))=res by rw[<-HE.out,bV,gL hN];rfl);refine(fK E s w4 gg.rd hN).mono ?_;rintro e w5⟨rfl,O⟩;have gl:=ga.grown O.gr;have g2:=gg.moved.trans O;have hu:=O.gr.size;clear HE hN O gg ga;generalize(aj E.c s.at_).text=tx at *;go_wp2_with fail;refine(aI _ _ _ _ _ ⟨_,_,_,rfl⟩).mono ?_;rintro e w6⟨rfl,ge⟩;have g5:=gl.below ge (by omega);have hk:=g2.step ge;have jf:=ge.size;clear ge gl g2;go_wp2_with fail;have hq:=aa.new w6 41 #[.int .i64 10,.string tx,.slice none 0 0,.int .i64 (ar E.c s)];have hr:=g5.alloc (.cells #[.int .i64 10,.string tx,.slice none 0 0,.int .i64 (ar E.c s)] 41);have hj:=hk.alloc (.cells #[.int .i64 10,.string tx,.slice none 0 0,.int .i64 (ar E.c s)] 41);refine(bL E (am s) _ _ hj.rd).mono ?_;rintro e w8⟨rfl,g0⟩;have hn:=hq.below g0 (by simp);have g4:=hr.below g0 (by simp;omega);have g1:=hj.step g0;(have je:w6.heap.size+1<=w8.heap.size:=by have:=g0.size;simp at this;omega);clear hq hr hj g0;cases hI:aR E.c (am s) ⟨#[91]⟩with
    |false=>have HF:=hid (show res=.ok (.mk 10 tx [] (ar E.c s)) (am s)by rw[<-I.out];simp[hI]);obtain⟨x0,x1,x2,x3,_,_,_,_⟩:=ah hn;obtain⟨d0,d1,d2,d3,e0,e1,e2,e3⟩:=ah g4;clear I;go_wp2_with fail;refine av (X:=fun _=>False) HF.out (aq.leaf _ _ _) g1 g4 (gB _) gd ?_ rfl (by rfl) rfl;exact fun _ h=>h.elim
    | true=>
     go_wp2_with fail;refine(oF E (am s) _ g1.rd).mono ?_;rintro e w9⟨rfl,gv⟩;have hm:=hn.below gv.bel (by omega);have g3:=g4.below gv.bel (by omega);have gq:=g1.trans gv.moved;have jd:=gv.bel.size;clear hn g4 g1 gv;cases hJ:dG E.c (am s)with
     |true=>have HF:=hid (show res=.ok (.mk 10 tx [] (ar E.c s)) (am s)by rw[<-I.out];simp[hI,hJ]);obtain⟨x0,x1,x2,x3,_,_,_,_⟩:=ah hm;obtain⟨d0,d1,d2,d3,e0,e1,e2,e3⟩:=ah g3;clear I;go_wp2_with fail;refine av (X:=fun _=>False) HF.out (aq.leaf _ _ _) gq g3 (gB _) gd ?_ rfl (by rfl) rfl;exact fun _ h=>h.elim
     | false=>
      have g8:=hid (show(aU F.typ ⟨#[93]⟩ F.g [] E.c (am (am s))).bind (fun l s2=>if l.length=0 then .fail (ar E.c s2)else .ok (.mk 10 tx l (ar E.c s)) s2)=res by rw[<-I.out];simp[hI,hJ]);have jc:=pv gq.rd hI;obtain⟨c0,c1,c2,c3,c4,f0⟩:=gq.rd.cells;have f1:=f0 1;have h1:=gq.rd.lt;clear I hI hJ f0;go_wp2_with fail;have gk:=gq.setAt ((am s).at_+1) (by omega);have hc:=hm.far (p:=⟨E.R,1,none⟩) (by show w6.heap.size≠E.R;omega) (.int .i64 (((am s).at_+1:Nat):Int));have hf:=g3.far (p:=⟨E.R,1,none⟩) (by show w.heap.size≠E.R;omega) (.int .i64 (((am s).at_+1:Nat):Int));(have h9:w9.heap.size<=(w9.setCell ⟨E.R,1,none⟩ (.int .i64 (((am s).at_+1:Nat):Int))).heap.size:=by simp);clear hm g3 gq c0 c1 c2 c3 c4 f1;cases J:aU F.typ ⟨#[93]⟩ F.g [] E.c (am (am s))with
      |out=>exact absurd g8.out.symm (by rw[J];exact gu.out)
      |fail q=>refine(lk E 200 #[E.R] #[] F.typ ⟨#[93]⟩ F.g (am (am s)) _ gk.rd yG (hF.typ.part _) (by rw[J];exact nofun) hF.g).mono ?_;rw[J];rintro e w11⟨rfl,ho⟩;unfold ag;exact⟨rfl,af (by rw[<-g8.out,J];rfl) gk.gr ho⟩
      | ok l s2=>
       have g7:=hid (show(if l.length=0 then .fail (ar E.c s2)else .ok (.mk 10 tx l (ar E.c s)) s2)=res by rw[<-g8.out,J];rfl);refine(lk E 200 #[E.R] #[] F.typ ⟨#[93]⟩ F.g (am (am s)) _ gk.rd yG (hF.typ.part _) (by rw[J];exact nofun) hF.g).mono ?_;rw[J];rintro e w11⟨⟨v,rfl,hv⟩,gj⟩;have ha:=hc.grown gj.gr;have he:=hf.grown gj.gr;have g9:=gk.trans gj;have h8:=gj.gr.size;have ht:=hv.mono (Y:=fun b=>w6.heap.size+1<=b) (fun b hb _=>by omega);obtain⟨A,cp,xs,rfl,_,_,_⟩:=hv;obtain⟨x0,x1,x2,x3,y0,y1,y2,y3⟩:=ah ha;have jb:=ha.lt;clear g8 J hc hf gk gj;by_cases hz:l.length=0
       ·have HF:=hid (show res=.fail (ar E.c s2)by rw[<-g7.out,gL hz]);(have hs:((l.length:Int)==0)=true:=by rw[hz];rfl);clear g7 hz;go_wp2_with fail;have gn:=g9.own (p:=⟨w6,2,none⟩) (by show w.heap.size<=w6.heap.size;omega) (by show E.R<w6.heap.size;omega) (.slice A l.length cp);refine(dh E s2 _ gn.rd).mono ?_;rintro e w13⟨rfl,hp⟩;unfold ag;exact⟨rfl,af HF.out gn.gr (ac _ hp)⟩
       ·have HF:Hid (res=.ok (.mk 10 tx l (ar E.c s)) s2):=hid (by rw[<-g7.out,gE hz]);(have hs:((l.length:Int)==0)=false:=by rw[gD];omega);obtain⟨d0,d1,d2,d3,e0,e1,e2,e3⟩:=ah he;(have ja:w.heap.size≠w6.heap.size:=by omega);clear g7 hz;go_wp2_with fail;have gn:=g9.own (p:=⟨w6,2,none⟩) (by show w.heap.size<=w6.heap.size;omega) (by show E.R<w6.heap.size;omega) (.slice A l.length cp);refine av (X:=fun b=>w6.heap.size+1<=b) HF.out ?_ gn (he.far (p:=⟨w6,2,none⟩) (by show w.heap.size≠w6.heap.size;omega) (.slice A l.length cp)) (gB _) gd ?_ rfl (by rfl) rfl
        ·exact(aq.of_slice ht 10 tx (ar E.c s)).kept ((ak.refl _ _).setCell (fun hX=>by simp at hX;omega) _)
        ·intro b hb;constructor<;>omega
theorem rh(E:bC)(F:eQ)(hF:mC E F):dp E (lH F) 294:=by
 intro w s h hno;generalize hres:lH F E.c s=res at *;have O:=hid hres;have gm:=hid hno;have gd:=h.lt;clear hres hno;(go_enter func294,ntmps294);go_wp2_with fail;refine(bh E s _ (h.alloc _)).mono ?_;unfold eR;rintro e w1⟨rfl,gi⟩;have q:=((bX.refl h).alloc _).step gi;have ga:=(aa.new w 41 bg).below gi (by simp);have gg:=ga.lt;clear gi;go_wp2_with fail;cases hA:aR E.c s ⟨#[126]⟩with
 |true=>
  have HE:=hid (show(F.typ E.c (am s)).bind (fun t s1=>.ok (.mk 15 ⟨#[126]⟩ [t] (ar E.c s)) s1)=res by rw[<-O.out,lH,gL hA]);refine(aS E s _ w1 q.rd hA).mono ?_;rintro e w2⟨rfl,x⟩;have gl:=ga.grown x.gr;have J:=q.moved.trans x;have gp:=x.gr.size;clear O hA ga q;go_wp2_with fail;cases M:F.typ E.c (am s)with
  |out=>exact absurd HE.out.symm (by rw[M];exact gm.out)
  |fail p=>refine(hF.typ w2 _ x.rd (by rw[M];exact nofun)).mono ?_;rw[M];rintro e w3⟨rfl,gh⟩;unfold ag;exact⟨rfl,af (by rw[<-HE.out,M];rfl) J.gr gh⟩
  |ok n s1=>have HF:Hid (res=.ok (.mk 15 ⟨#[126]⟩ [n] (ar E.c s)) s1):=hid (by rw[<-HE.out,M];rfl);refine(hF.typ w2 _ x.rd (by rw[M];exact nofun)).mono ?_;rw[M];rintro e w3⟨⟨v,rfl,hv⟩,D⟩;obtain⟨A,cp,rfl,hC⟩:=hv.toC;have z:=gl.grown D.gr;have gk:=J.trans D;have gn:=D.gr.size;have ge:=z.lt;clear M HE x D J;go_wp2_with fail;refine(aI _ _ _ _ _ ⟨_,_,_,rfl⟩).mono ?_;rintro e w4⟨rfl,I⟩;have hV:=aq.make 1 rfl (ae.one hC) 15 ⟨#[126]⟩ (ar E.c s) I;have y:=(z.alloc _).below I (by simp;omega);have gj:=(gk.alloc _).step I;obtain⟨d0,d1,d2,d3,e0,e1,e2,e3⟩:=ah y;clear I;go_wp2_with fail;refine av HF.out hV gj y (gB _) gd ?_ rfl (by rfl) rfl;rintro b(⟨hb,_⟩|rfl)<;>constructor<;>omega
 |false=>
  have HE:=hid (show(F.typ E.c s).bind (fun t s1=>.ok (.mk 15 ⟨#[]⟩ [t] (ar E.c s)) s1)=res by rw[<-O.out,lH];simp only[hA,gX,kK]);refine(aW E s _ w1 q.rd hA).mono ?_;rintro e w2⟨rfl,gb⟩;have gl:=ga.below gb.bel gg;have J:=q.moved.trans gb.moved;have gp:=gb.bel.size;clear O hA ga q;go_wp2_with fail;cases M:F.typ E.c s with
  |out=>exact absurd HE.out.symm (by rw[M];exact gm.out)
  |fail p=>refine(hF.typ w2 _ J.rd (by rw[M];exact nofun)).mono ?_;rw[M];rintro e w3⟨rfl,gh⟩;unfold ag;exact⟨rfl,af (by rw[<-HE.out,M];rfl) J.gr gh⟩
  |ok n s1=>have HF:Hid (res=.ok (.mk 15 ⟨#[]⟩ [n] (ar E.c s)) s1):=hid (by rw[<-HE.out,M];rfl);refine(hF.typ w2 _ J.rd (by rw[M];exact nofun)).mono ?_;rw[M];rintro e w3⟨⟨v,rfl,hv⟩,D⟩;obtain⟨A,cp,rfl,hC⟩:=hv.toC;have z:=gl.grown D.gr;have gk:=J.trans D;have gn:=D.gr.size;have ge:=z.lt;clear M HE gb D J;go_wp2_with fail;refine(aI _ _ _ _ _ ⟨_,_,_,rfl⟩).mono ?_;rintro e w4⟨rfl,I⟩;have hV:=aq.make 1 rfl (ae.one hC) 15 ⟨#[]⟩ (ar E.c s) I;have y:=(z.alloc _).below I (by simp;omega);have gj:=(gk.alloc _).step I;obtain⟨d0,d1,d2,d3,e0,e1,e2,e3⟩:=ah y;clear I;go_wp2_with fail;refine av HF.out hV gj y (gB _) gd ?_ rfl (by rfl) rfl;rintro b(⟨hb,_⟩|rfl)<;>constructor<;>omega
end
end Go.Proofs.YtcoiialmdncpfaaGreatDoor
