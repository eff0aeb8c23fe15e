/-
  Parts of the proof: Rslice Rkit Lpl Rtyp Rft Rsig. By an AI agent.
-/
import Derived.Test.YtiebcdeafofgdaaGreatDoorJ03
import Derived.Test.YtiebcdeafofgdaaGreatDoorJ00
import Derived.Test.YtiebcdeafofgdaaGreatDoorJ01
import Derived.Defers
import Derived.Recover
import Derived.IntWalk
import Derived.Lib.Replace
import Derived.Lib.IndexBytes
import Derived.Deep.RegionHeld2
open Go.Proofs.Tryz
set_option maxRecDepth 100000
set_option maxHeartbeats 8000000
namespace Go.Proofs.YtiebcdeafofgdaaGreatDoor
section
open Go.RowKit Go.Lib Go.Proofs
attribute [local go_sem ↓] Go.wp_at_zero Go.wp_at_succ
theorem gK:type_of% @decide_eq_true_iff:=@decide_eq_true_iff
theorem gQ:type_of% @Go.IntWalk.i64_in:=@Go.IntWalk.i64_in
theorem jB:type_of% @Go.World.block_lt_of_cell?:=@Go.World.block_lt_of_cell?
theorem jY:type_of% @Go.wpQuiet_nil:=@Go.wpQuiet_nil
theorem qD:type_of% @List.cons.injEq:=@List.cons.injEq
theorem vD:type_of% @and_true:=@and_true
def TY(E:cy)(s:St)(b off:Nat)(k:Int)(x:ByteArray)(w:World):Prop:=
 w.cell? ⟨E.R,0,none⟩=some (.slice (some ⟨b,off,none⟩) E.c.toks.length E.cap)/\w.cell? ⟨E.R,1,none⟩=some (.int .i64 s.at_) /\
 w.cell? ⟨b,off+(s.at_+1)*3,none⟩=some (.int .i64 k)/\w.cell? ⟨b,off+(s.at_+1)*3+1,none⟩=some (.string x)
theorem IN{E:cy}{s:St}{w:World}(h:aU E w s)(D:s.at_+1<E.c.toks.length):∃b off,∀w',aU E w' s->TY E s b off (ay E.c (s.at_+1)).kind (ay E.c (s.at_+1)).text w':=by obtain⟨b,off,eA,hb,t0,U,O⟩:=h.tok _ D;refine⟨b,off,fun w' h'=>?_⟩;obtain⟨c0,c1,_,_,_,_⟩:=h'.cells;obtain⟨b',off',eA',N,J,I,M⟩:=h'.tok _ D;rw[eA]at eA' c0;injection eA' with e;injection e with e1 e2;subst e1 e2;exact⟨c0,c1,J,I⟩
theorem pv(E:cy)(s:St)(w:World)(h:aU E w s):Calls prog 126 #[E.R] w fun e w'=>e=.returned (.bool (dE E.c s))/\cN E s w w':=by
 have M:=hid (fun w'(h:aU E w' s)=>bU E s ⟨#[91]⟩ w' h);have O:=h.most;have J:=cN.refl h;by_cases D:aS E.c s ⟨#[91]⟩=true
 ·have U:=ra h D;by_cases I:s.at_+1<E.c.toks.length
  ·obtain⟨b,off,hS⟩:=IN h I;have N:=hid hS;(have hs:dE E.c s=((ay E.c (s.at_+1)).kind==6&&((ay E.c (s.at_+1)).text.toList==(⟨#[93]⟩:BA).toList)):=by unfold dE;rw[D,gN I,cu];unfold ay;rw[gN I];rfl);rw[hs];(have g1:decide ((s.at_:Int)+1<(E.c.toks.length:Int))=true:=by simp;omega);(have g2:(0:Int)<=(s.at_:Int)+1:=by omega);(have g3:(s.at_:Int)+1<(E.c.toks.length:Int):=by omega);have g4:IntKind.i64.wrap ((s.at_:Int)+1)=(s.at_:Int)+1:=gQ _ (by omega);(have g5:((s.at_:Int)+1).toNat=s.at_+1:=by omega);rw[D]at M;clear hs hS D;generalize ay E.c (s.at_+1)=t at *;obtain⟨tk,tt,tp⟩:=t;simp only at *;have k0:∀n:Wd (cN E s w),n.wd.cell? ⟨E.R,0,none⟩=some (.slice (some ⟨b,off,none⟩) E.c.toks.length E.cap):=fun n=>(N.out _ n.ok.rd).1;have k1:∀n:Wd (cN E s w),n.wd.cell? ⟨E.R,1,none⟩=some (.int .i64 s.at_):=fun n=>(N.out _ n.ok.rd).2.1;have k2:∀n:Wd (cN E s w),n.wd.cell? ⟨b,off+(s.at_+1)*3,none⟩=some (.int .i64 tk):=fun n=>(N.out _ n.ok.rd).2.2.1;have k3:∀n:Wd (cN E s w),n.wd.cell? ⟨b,off+(s.at_+1)*3+1,none⟩=some (.string tt):=fun n=>(N.out _ n.ok.rd).2.2.2;(have z1:(⟨#[93]⟩:BA).toList=[93]:=by decide +kernel);rw[z1];cases h1:(tk==6)<;>cases h2:(tt.toList==[93]);all_goals
    (go_enter func126,ntmps126);go_wp2_with fail;haveI:Nonempty (Wd (cN E s w)):=⟨⟨w,J⟩⟩
    refine ik (cN E s w) (by kernel_rfl) (by kernel_rfl) J.drew ?_;(repeat(go_big_quiet_step ((go_at_call 42;rename_i n;refine(M.out _ n.ok.rd).mono ?_;rintro e w'⟨rfl,hb⟩;exact⟨rfl,⟨w',n.ok.step hb⟩,rfl⟩))));refine jY ?_;intro n;go_wp2_with fail;go_ret;exact⟨rfl,n.ok⟩
  ·(have hs:dE E.c s=false:=by unfold dE;rw[D,qZ (by omega)];rfl);rw[hs];(have g1:decide ((s.at_:Int)+1<(E.c.toks.length:Int))=false:=by simp;omega);have g4:IntKind.i64.wrap ((s.at_:Int)+1)=(s.at_:Int)+1:=gQ _ (by omega);have k0:∀n:Wd (cN E s w),n.wd.cell? ⟨E.R,0,none⟩=some (.slice E.A E.c.toks.length E.cap):=fun n=>n.ok.rd.cells.1;have k1:∀n:Wd (cN E s w),n.wd.cell? ⟨E.R,1,none⟩=some (.int .i64 s.at_):=fun n=>n.ok.rd.cells.2.1;rw[D]at M;clear hs D
   ·(go_enter func126,ntmps126);go_wp2_with fail;haveI:Nonempty (Wd (cN E s w)):=⟨⟨w,J⟩⟩
    refine ik (cN E s w) (by kernel_rfl) (by kernel_rfl) J.drew ?_;(repeat(go_big_quiet_step ((go_at_call 42;rename_i n;refine(M.out _ n.ok.rd).mono ?_;rintro e w'⟨rfl,hb⟩;exact⟨rfl,⟨w',n.ok.step hb⟩,rfl⟩))));refine jY ?_;intro n;go_wp2_with fail;go_ret;exact⟨rfl,n.ok⟩
 ·(have hs:dE E.c s=false:=by unfold dE;simp[D]);rw[hs];rw[show aS E.c s ⟨#[91]⟩=false by simpa using D]at M;clear hs D
  ·go_enter func126,ntmps126
   ·go_wp2_with fail;haveI:Nonempty (Wd (cN E s w)):=⟨⟨w,J⟩⟩
    refine ik (cN E s w) (by kernel_rfl) (by kernel_rfl) J.drew ?_;(repeat(go_big_quiet_step ((go_at_call 42;rename_i n;refine(M.out _ n.ok.rd).mono ?_;rintro e w'⟨rfl,hb⟩;exact⟨rfl,⟨w',n.ok.step hb⟩,rfl⟩))));refine jY ?_;intro n;go_wp2_with fail;go_ret;exact⟨rfl,n.ok⟩
end
section
open Go.RowKit Go.Lib Go.Proofs
def eC(E:cy)(m:R Nd)(f:FuncId):Prop:=
 ∀(w:World)(s:St),aU E w s->m E.c s≠.out->Calls prog f #[E.R] w (pO E w (m E.c s))
structure pw(E:cy)(F:iE):Prop where
 typ:eC E F.typ 131
 expr:eC E F.expr 41
 unary:eC E F.unary 92
 stmt:eC E F.stmt 135
 ifS:eC E F.ifS 181
 g:F.g<=1000000
theorem eC.part{E:cy}{m:R Nd}{f:FuncId}(h:eC E m f)(w0:World):fZ E f #[E.R] m w0:=fun w s _ hr hm=>h w s hr hm
theorem af.make{X:Nat->Prop}{wj w2:World}{l:List Nd}{xs:List Value}(k:Nat)(M:l.length=k)(J:ag X wj l xs)(kind:Int)(t:ByteArray)(pos:Int)
  (hb:Below (wj.alloc (.cells xs.toArray 24)).heap.size (wj.alloc (.cells xs.toArray 24)) w2):
  af (fun b=>(X b/\b<wj.heap.size)\/b=wj.heap.size) w2 (.agg #[kind,t,.slice (some ⟨wj,0,none⟩) k k,pos]) (.mk kind t l pos):=by
 subst M;have I:an w2 wj.heap.size 24 xs.toArray:=(an.new wj 24 xs.toArray).below hb (by simp);refine⟨some ⟨wj,0,none⟩,l.length,xs,rfl,gA _,⟨J.len,fun _=>⟨wj.heap.size,0,rfl,.inr rfl,fun j u hu=>?_⟩⟩,?_⟩
 ·have:=I.cell (0+j);rw[this,kS];simpa using hu
 ·refine((J.mono (Y:=fun b=>X b/\b<wj.heap.size) fun b hb D=>⟨hb,D⟩).keep (w':=w2) fun b hx D=>?_).mono fun b hb _=>.inl hb;exact(hb.block b (by simp;omega)).trans (jF wj _ b D)
theorem af.leaf{X:Nat->Prop}{w:World}(kind:Int)(t:ByteArray)(pos:Int):af X w (.agg #[kind,t,.slice none 0 0,pos]) (.mk kind t [] pos):=
 ⟨none,0,[],rfl,gA _,⟨rfl,fun h=>absurd h (by simp)⟩,ag.nil⟩
theorem af.of_slice{X:Nat->Prop}{w:World}{v:Value}{l:List Nd}(h:cS X w v l)(kind:Int)(t:ByteArray)(pos:Int):af X w (.agg #[kind,t,v,pos]) (.mk kind t l pos):=by obtain⟨A,cap,xs,rfl,J,I,D⟩:=h;exact⟨A,cap,xs,rfl,J,I,D⟩
theorem cell_kept{w w':World}(hb:Below w w w'){a:Addr}{v:Value}(D:w.cell? a=some v):w'.cell? a=some v:=(hb.cell (jB w a D)).trans D
abbrev nm(a0 a1 a2 a3 a4:Addr)(v0 v1 v2 v3 v4:Value)(w:World):Prop:=w.cell? a0=some v0/\w.cell? a1=some v1/\w.cell? a2=some v2/\w.cell? a3=some v3/\w.cell? a4=some v4
section
variable {a0 a1 a2 a3 a4:Addr} {v0 v1 v2 v3 v4:Value} {w w':World}
theorem nm.below(h:nm a0 a1 a2 a3 a4 v0 v1 v2 v3 v4 w)(hb:Below w w w'):nm a0 a1 a2 a3 a4 v0 v1 v2 v3 v4 w':=
 ⟨cell_kept hb h.1,cell_kept hb h.2.1,cell_kept hb h.2.2.1,cell_kept hb h.2.2.2.1,cell_kept hb h.2.2.2.2⟩
theorem nm.drew(h:nm a0 a1 a2 a3 a4 v0 v1 v2 v3 v4 w):nm a0 a1 a2 a3 a4 v0 v1 v2 v3 v4 w.drew:=h.below (gG _ _).drew
theorem nm.alloc(h:nm a0 a1 a2 a3 a4 v0 v1 v2 v3 v4 w)(o:Obj):nm a0 a1 a2 a3 a4 v0 v1 v2 v3 v4 (w.alloc o):=h.below ((gG _ _).alloc (gA _) o)
theorem nm.far(h:nm a0 a1 a2 a3 a4 v0 v1 v2 v3 v4 w){p:Addr}(u:Value)(N:a0.block≠p.block)(M:a1.block≠p.block)(J:a2.block≠p.block)(I:a3.block≠p.block)(D:a4.block≠p.block):nm a0 a1 a2 a3 a4 v0 v1 v2 v3 v4 (w.setCell p u):=
 have k:∀(a:Addr)(v:Value),w.cell? a=some v->a.block≠p.block->(w.setCell p u).cell? a=some v:=fun a _ hc hn=>(kY (jN w p u a.block hn)).trans hc
 ⟨k _ _ h.1 N,k _ _ h.2.1 M,k _ _ h.2.2.1 J,k _ _ h.2.2.2.1 I,k _ _ h.2.2.2.2 D⟩
theorem nm.put(h:nm a0 a1 a2 a3 a4 v0 v1 v2 v3 v4 w)(g:Nat)(N:a0.block≠g)(M:a1.block≠g)(J:a2.block≠g)(I:a3.block≠g)(D:a4.block≠g)(a b c d:Value):
  nm a0 a1 a2 a3 a4 v0 v1 v2 v3 v4 ((((w.setCell ⟨g,0,none⟩ a).setCell ⟨g,1,none⟩ b).setCell ⟨g,2,none⟩ c).setCell ⟨g,3,none⟩ d):=
 (((h.far (p:=⟨g,0,none⟩) a N M J I D).far (p:=⟨g,1,none⟩) b N M J I D).far (p:=⟨g,2,none⟩) c N M J I D).far (p:=⟨g,3,none⟩) d N M J I D
theorem nm.grown{R:Nat}(h:nm a0 a1 a2 a3 a4 v0 v1 v2 v3 v4 w)(D:w.grownBy w' (some R))(O:a0.block≠R)(N:a1.block≠R)(M:a2.block≠R)(J:a3.block≠R)(I:a4.block≠R):nm a0 a1 a2 a3 a4 v0 v1 v2 v3 v4 w':=
 have k:∀(a:Addr)(v:Value),w.cell? a=some v->a.block≠R->w'.cell? a=some v:=fun a _ hc hn=>
  (kY (D.block a.block (jB w a hc) (fun e=>hn (by injection e)))).trans hc
 ⟨k _ _ h.1 O,k _ _ h.2.1 N,k _ _ h.2.2.1 M,k _ _ h.2.2.2.1 J,k _ _ h.2.2.2.2 I⟩
end
def dO(w:World)(g:Nat)(a b c d:Value):World:=(((w.setCell ⟨g,0,none⟩ a).setCell ⟨g,1,none⟩ b).setCell ⟨g,2,none⟩ c).setCell ⟨g,3,none⟩ d
theorem dJ{w:World}{g:Nat}{z0 z1 z2 z3:Value}(h:an w g 24 #[z0,z1,z2,z3])(a b c d:Value):an (dO w g a b c d) g 24 #[a,b,c,d]:=by unfold dO;have:=(((h.set_ 0 a).set_ 1 b).set_ 2 c).set_ 3 d;simpa using this
theorem fv{E:cy}{s:St}{w wk:World}{g:Nat}(h:aw E s w wk)(D:w.heap.size<=g)(I:E.R<g)(a b c d:Value):aw E s w (dO wk g a b c d):=
 (((h.own (p:=⟨g,0,none⟩) D I a).own (p:=⟨g,1,none⟩) D I b).own (p:=⟨g,2,none⟩) D I c).own (p:=⟨g,3,none⟩) D I d
theorem dF{X:Nat->Prop}{wk:World}{g:Nat}(D:∀b,X b->b≠g)(a b c d:Value):ar X wk (dO wk g a b c d):=
 ((((ar.refl X wk).setCell (p:=⟨g,0,none⟩) (fun h=>D g h rfl) a).setCell (p:=⟨g,1,none⟩) (fun h=>D g h rfl) b).setCell (p:=⟨g,2,none⟩) (fun h=>D g h rfl) c).setCell (p:=⟨g,3,none⟩) (fun h=>D g h rfl) d
theorem aC{E:cy}{w wk:World}{res:cC Nd}{n:Nd}{s:St}{X:Nat->Prop}{a0 a1 a2 a3 z0 z1 z2 z3:Value}{g q:Nat}{fn:Func}{a:Act}(N:res=.ok n s)
  (J:af X wk (.agg #[a0,a1,a2,a3]) n)(O:aw E s w wk)(hb:an wk g 24 #[z0,z1,z2,z3])(U:w.heap.size<=g)(h:E.R<g)(I:∀b,X b->w.heap.size<=b/\b≠g)
  (D:fn.results = #[.cell q 24])(M:a.tmps.getD q undef=.pointer (some ⟨g,0,none⟩))(hd:a.defers=[]):
  bodyPost prog fn (pO E w res) .ret a (dO wk g a0 a1 a2 a3):=by refine jV (eX D _ M (dJ hb a0 a1 a2 a3)) hd ?_;rw[N];exact⟨⟨_,rfl,(J.kept (dF (fun b hb=>(I b hb).2) _ _ _ _)).mono fun b hb _=>(I b hb).1⟩,fv O U h _ _ _ _⟩
theorem Le(c b:UInt8)(l:List UInt8)(h:(b==c)=false):Lib.index (b::l) [c]=if Lib.index l [c] = -1 then -1 else Lib.index l [c]+1:=by rw[Lib.index_one,Lib.index_one,Lib.indexByte,h];simp
theorem B6(c b:UInt8)(l:List UInt8)(h:(b==c)=false):∀k,Lib.replaceK [c] [] k (b::l)=b::Lib.replaceK [c] [] k l
 |0=>rfl
 |k+1=>by
  have J:=Lib.index_ge l [c];rw[Lib.replaceK,Lib.replaceK,Le c b l h];by_cases I:Lib.index l [c] = -1
  ·rw[gF I,I];rfl
  ·rw[d5 I];obtain⟨i,D⟩:∃i:Nat,Lib.index l [c]=i:=⟨(Lib.index l [c]).toNat,by omega⟩;rw[D,d5 (by rw[kF];omega),d5 (by rw[kF];omega)];rw[show((i:Int)+1).toNat=i+1 by omega,show((i:Int)).toNat=i by omega];show(b::l.take i)++[]++_=_;rw[show i+1+[c].length=(i+[c].length)+1 from rfl,vm];rfl
theorem mY(c:UInt8):∀(l:List UInt8)(k:Nat),l.count c<=k->Lib.replaceK [c] [] k l=l.filter fun x=>x != c
 |[],0,_=>rfl
 |[],k+1,_=>rfl
 |b::l,k,D=>by
  cases h:b==c with
  |true=>have hb:=eq_of_beq h;subst hb;rw[List.count_cons_self]at D;obtain⟨k,rfl⟩:∃j,k=j+1:=⟨k-1,by omega⟩;(have J:Lib.index (b::l) [b]=0:=by rw[Lib.index_one,Lib.indexByte];simp);rw[Lib.replaceK,J];show[]++[]++Lib.replaceK [b] [] k l=_;rw[mY b l k (by omega)];simp
  |false=>rw[B6 c b l h k];rw[List.count_cons,h]at D;rw[mY c l k (by simpa using D)];(have I:(b != c)=true:=by simp[bne,h]);rw[List.filter_cons,I];rfl
theorem tO(c:UInt8)(l:List UInt8):Lib.replaceAll l [c] []=l.filter fun x=>x != c:=by unfold Lib.replaceAll Lib.replace;rw[d5 (by simp)];refine mY c l _ ?_;unfold Lib.replaceNum;rw[gF (.inl (by decide)),Lib.count_one];exact gA _
theorem mG(c:UInt8):∀l:List UInt8,decide (Lib.indexByte l c<0) = !(l.any fun x=>x==c)
 |[]=>rfl
 | b::l=>by
  have ih:=mG c l;have I:=Lib.indexByte_ge l c;rw[Lib.indexByte,List.any_cons];cases h:b==c with
  |true=>rfl
  |false=>
   rw[vi,<-ih];simp only[jC,kI];rw[kQ,gK,gK];by_cases D:Lib.indexByte l c = -1
   ·rw[D];simp
   ·rw[d5 (by simpa using D)];omega
theorem Lf(x c:UInt8):(x==c)=(x.toNat==c.toNat):=by rw[kQ,kF,kF];exact⟨fun h=>by rw[h],fun h=>UInt8.toNat_inj.mp h⟩
end
section
open Go.RowKit Go.Lib Go.Proofs
attribute [local go_sem ↓] Go.wp_at_zero Go.wp_at_succ
attribute [local go_sem] aV aW aX bv bw bz bA
theorem Ov(E:cy)(F:iE)(hF:pw E F)(B:Nat)(w0:World)(hB:an w0 B 52 #[E.R])(ge:B≠E.R):
  fZ E 217 #[B] (mS F) w0:=by
 intro w s hw h hno;generalize hres:mS F E.c s=res at *;have D:=hid hres;have gi:=hid hno;have M:=hB.grown hw (fun e=>ge (by injection e));have b0:=M.cell 0;have gk:=M.lt;have U:=h.lt;simp at b0;clear hres hno hB hw;(go_enter func217,ntmps217);go_wp2_with fail;refine(b8 E s _ (h.alloc _)).mono ?_;unfold iI;rintro e w1⟨rfl,J⟩;have N:=((cN.refl h).alloc _).step J;have gd:=(an.new w 24 bP).below J (by simp);have b1:=((M.alloc _).below J (by simp;omega)).cell 0;simp at b1;clear J;go_wp2_with fail;cases hP:F.typ E.c s with
 |out=>exact absurd D.out.symm (by rw[mS,hP];exact gi.out)
 |ok n s1=>have HF:Hid (res=.ok (.mk 8 ⟨#[]⟩ [n] (aM E.c s)) s1):=hid (by rw[<-D.out,mS,hP];rfl);refine(hF.typ w1 s N.rd (by rw[hP];exact nofun)).mono ?_;rw[hP];rintro e w2⟨⟨v,rfl,hv⟩,O⟩;obtain⟨A,cp,rfl,hC⟩:=hv.toC;have gb:=gd.grown O.gr;have gj:=gd.lt;have gh:=gb.lt;clear hP D;go_wp2_with fail;refine(aQ _ _ _ _ _ ⟨_,_,_,rfl⟩).mono ?_;rintro e w3⟨rfl,I⟩;have hV:=af.make 1 rfl (ag.one hC) 8 ⟨#[]⟩ (aM E.c s) I;have ga:=(gb.alloc _).below I (by simp;omega);have gg:=((N.moved.trans O).alloc _).step I;obtain⟨d0,d1,d2,d3,e0,e1,e2,e3⟩:=ab ga;clear I;go_wp2_with fail;refine aC HF.out hV gg ga (gA _) U ?_ rfl (by rfl) rfl;rintro b(⟨hb,_⟩|rfl)<;>constructor<;>omega
theorem IP(E:cy)(F:iE)(hF:pw E F)(B:Nat)(w0:World)(hB:an w0 B 52 #[E.R])(ga:B≠E.R):
  fZ E 130 #[B] (fp F) w0:=by
 intro w s hw h hno;generalize hres:fp F E.c s=res at *;have D:=hid hres;have gj:=hid hno;have O:=hB.grown hw (fun e=>ga (by injection e));have b0:=O.cell 0;have gq:=O.lt;have gd:=h.lt;simp at b0;clear hres hno hB hw;(go_enter func130,ntmps130);go_wp2_with fail;refine(b8 E s _ (h.alloc _)).mono ?_;unfold iI;rintro e w1⟨rfl,M⟩;have U:=((cN.refl h).alloc _).step M;have N:=(an.new w 24 bP).below M (by simp);have gi:=(O.alloc _).below M (by simp;omega);have b1:=gi.cell 0;simp at b1;clear M;go_wp2_with fail;by_cases hK:(ay E.c s.at_).kind=1
 ·have HK:=hid hK;refine(ni E s w1 U.rd hK).mono ?_;rintro e w2⟨rfl,I⟩;have gh:=N.grown I.gr;have b2:=(gi.grown I.gr (fun e=>ga (by injection e))).cell 0;simp at b2;have gn:=N.lt;clear hK;go_wp2_with fail;cases hP:F.typ E.c (adv s)with
  |out=>exact absurd D.out.symm (by rw[fp,eK,gF HK.out,cC.bind_ok,hP];exact gj.out)
  |ok n s1=>have HF:Hid (res=.ok (.mk 8 (ay E.c s.at_).text [n] (aM E.c s)) s1):=hid (by rw[<-D.out,fp,eK,gF HK.out,cC.bind_ok,hP];rfl);refine(hF.typ w2 (adv s) I.rd (by rw[hP];exact nofun)).mono ?_;rw[hP];rintro e w3⟨⟨v,rfl,hv⟩,gb⟩;obtain⟨A,cp,rfl,hC⟩:=hv.toC;have gg:=gh.grown gb.gr;have gp:=N.lt;have gm:=gh.lt;have gl:=gg.lt;have gs:=I.gr.size;clear hP D HK;go_wp2_with fail;refine(aQ _ _ _ _ _ ⟨_,_,_,rfl⟩).mono ?_;rintro e w4⟨rfl,J⟩;have hV:=af.make 1 rfl (ag.one hC) 8 (ay E.c s.at_).text (aM E.c s) J;have ge:=(gg.alloc _).below J (by simp;omega);have gk:=((U.moved.trans (I.trans gb)).alloc _).step J;obtain⟨d0,d1,d2,d3,e0,e1,e2,e3⟩:=ab ge;clear J;go_wp2_with fail;refine aC HF.out hV gk ge (gA _) gd ?_ rfl (by rfl) rfl;rintro b(⟨hb,_⟩|rfl)<;>constructor<;>omega
 ·exact absurd (show res=.out by rw[<-D.out,fp,eK,d5 hK];rfl) gj.out
theorem um(E:cy)(F:iE)(hF:pw E F):eC E (dp F) 132:=by
 intro w s h hno;generalize hres:dp F E.c s=res at *;have D:=hid hres;have gb:=hid hno;have J:=h.lt;clear hres hno;(go_enter func132,ntmps132);go_wp2_with fail;refine(F2 E s _ (h.alloc _)).mono ?_;rintro e w1⟨rfl,N⟩;have M:=((cN.refl h).alloc _).step N.bel;have I:=(an.new w 24 bP).below N.bel (by simp);have gd:=I.lt;clear N;cases hT:oJ E.c s with
 |false=>have HF:Hid (res=.ok bX s):=hid (by rw[<-D.out,dp,hT];rfl);obtain⟨d0,d1,d2,d3,e0,e1,e2,e3⟩:=ab I;go_wp2_with fail;refine aC (X:=fun _=>False) HF.out af.zero M.moved I (gA _) J ?_ rfl (by rfl) rfl;exact fun _ h=>h.elim
 |true=>
  go_wp2_with fail;cases U:F.typ E.c s with
  |out=>exact absurd D.out.symm (by rw[dp,hT,gF rfl,U];exact gb.out)
  |ok n s1=>have HF:Hid (res=.ok n s1):=hid (by rw[<-D.out,dp,hT,gF rfl,U]);refine(hF.typ w1 s M.rd (by rw[U];exact nofun)).mono ?_;rw[U];rintro e w2⟨⟨v,rfl,hv⟩,O⟩;obtain⟨A,cp,rfl,hC⟩:=hv.toC;have ga:=I.grown O.gr;obtain⟨d0,d1,d2,d3,e0,e1,e2,e3⟩:=ab ga;clear U D;go_wp2_with fail;refine aC HF.out hv (M.moved.trans O) ga (gA _) J ?_ rfl (by rfl) rfl;intro b hb;constructor<;>omega
theorem IQ(a:Array Value)(w:World):(callFunc 217 a).run prog w=.ok (.enter 217 a) w:=by kernel_rfl
theorem rJ(E:cy)(F:iE)(hF:pw E F)(p:Int)(w:World)(s:St)(h:aU E w s)(gz:df F p E.c s≠.out):
  Calls prog 179 #[E.R,p] w (pO E w (df F p E.c s)):=by
 generalize hres:df F p E.c s=res at *;have ga:=hid hres;have gu:=hid gz;have hy:=h.lt;clear hres gz;(go_enter func179,ntmps179);go_wp2_with fail;have hj:an ((w.alloc (.cells #[E.R] 52)).alloc (.cells bP 24)) w.heap.size 52 #[E.R]:=(an.new w _ _).alloc _;(have hg:an ((w.alloc (.cells #[E.R] 52)).alloc (.cells bP 24)) (w.heap.size+1) 24 bP:=by have:=an.new (w.alloc (.cells #[E.R] 52)) 24 bP;simpa using this);refine(b8 E s _ ((h.alloc _).alloc _)).mono ?_;unfold iI;rintro e w1⟨rfl,gd⟩;have gy:=(((cN.refl h).alloc _).alloc _).step gd;have gp:=hg.below gd (by simp);have gh:=hj.below gd (by simp;omega);have b1:=gh.cell 0;simp at b1;clear gd hg hj;go_wp2_with fail;cases hA:aS E.c s ⟨#[40]⟩with
 |false=>exact absurd (show res=.out by rw[<-ga.out,df,ci];simp[hA]) gu.out
 | true=>
  have gt:=hid (show((a6 (mS F) ⟨#[41]⟩ F.g [] E.c (adv s)).bind fun l s2=>(dp F E.c s2).bind fun r s3=>.ok (.mk 12 ⟨#[]⟩ [.mk 6 ⟨#[]⟩ l (aM E.c s),r] p) s3)=res by rw[<-ga.out,df,ci];simp only[hA,kW,cC.bind_ok]);refine(dU E s _ w1 gy.rd hA).mono ?_;rintro e w2⟨rfl,O⟩;have hf:=gp.grown O.gr;have hi:=gh.grown O.gr;have gj:=gy.moved.trans O;have h1:=gh.lt;have h0:=gp.lt;have h7:=O.gr.size;clear ga hA O gp gh b1;go_wp2_with fail;refine(aQ _ _ _ _ _ ⟨_,_,_,rfl⟩).mono ?_;rintro e D⟨rfl,U⟩;have g6:=gj.step U;have gn:=hf.below U (by omega);have gg:=hi.below U (by omega);have b3:=gg.cell 0;simp at b3;have h6:=U.size;have hq:=gn.lt;have gm:=gg.lt;have ho:=qi gm;clear U hf hi gj;go_wp2_with fail;have gk:=g6.alloc (.cells #[.int .i64 6,.string ⟨#[]⟩,.slice none 0 0,.int .i64 (aM E.c s)] 24);have gq:=gg.alloc (.cells #[.int .i64 6,.string ⟨#[]⟩,.slice none 0 0,.int .i64 (aM E.c s)] 24);have he:=gn.alloc (.cells #[.int .i64 6,.string ⟨#[]⟩,.slice none 0 0,.int .i64 (aM E.c s)] 24);have g8:=an.new D 24 #[.int .i64 6,.string ⟨#[]⟩,.slice none 0 0,.int .i64 (aM E.c s)];(have h5:(D.alloc (.cells #[.int .i64 6,.string ⟨#[]⟩,.slice none 0 0,.int .i64 (aM E.c s)] 24)).heap.size=D.heap.size+1:=by simp);(have gi:w.heap.size≠E.R:=by omega);clear g6 gg gn;cases hR:a6 (mS F) ⟨#[41]⟩ F.g [] E.c (adv s)with
  |out=>exact absurd gt.out.symm (by rw[hR];exact gu.out)
  | ok l s2=>
   have gs:=hid (show(dp F E.c s2).bind (fun r s3=>.ok (.mk 12 ⟨#[]⟩ [.mk 6 ⟨#[]⟩ l (aM E.c s),r] p) s3)=res by rw[<-gt.out,hR];rfl);refine(pq E 217 #[] #[w] (mS F) ⟨#[41]⟩ F.g (adv s) _ gk.rd IQ (Ov E F hF w.heap.size _ gq gi) (by rw[hR];exact nofun) hF.g).mono ?_;rw[hR];rintro e w5⟨⟨v,rfl,hv⟩,N⟩;obtain⟨A,cp,xs,rfl,gx,gw,gv⟩:=hv;have ge:=g8.grown N.gr;have hc:=he.grown N.gr;have hh:=gq.grown N.gr;obtain⟨l0,l1,l2,l3,f0,f1,f2,f3⟩:=ab ge;have hz:=ge.lt;clear hR gt g8 he gq;go_wp2_with fail;(have g7:an (w5.setCell ⟨D,2,none⟩ (.slice A l.length cp)) D.heap.size 24 #[.int .i64 6,.string ⟨#[]⟩,.slice A l.length cp,.int .i64 (aM E.c s)]:=by simpa using ge.set_ 2 (.slice A l.length cp));have ha:=hc.far (p:=⟨D,2,none⟩) (by show w.heap.size+1≠D.heap.size;omega) (.slice A l.length cp);have hu:=hh.far (p:=⟨D,2,none⟩) (by show w.heap.size≠D.heap.size;omega) (.slice A l.length cp);have g5:=(gk.trans N).own (p:=⟨D,2,none⟩) (by show w.heap.size<=D.heap.size;omega) (by show E.R<D.heap.size;omega) (.slice A l.length cp);(have hm:cS (fun b=>D.heap.size+1<=b) (w5.setCell ⟨D,2,none⟩ (.slice A l.length cp)) (.slice A l.length cp) l:=by have hk:ar (fun b=>D.heap.size+1<=b) w5 (w5.setCell ⟨D,2,none⟩ (.slice A l.length cp)):=(ar.refl _ _).setCell (fun h=>by simp at h;omega) _;have hn:cS (fun b=>D.heap.size+1<=b) w5 (.slice A l.length cp) l:=⟨A,cp,xs,rfl,gx,by simpa using gw,by simpa using gv⟩;exact hn.kept hk);(have h3:w5.heap.size<=(w5.setCell ⟨D,2,none⟩ (.slice A l.length cp)).heap.size:=by simp);clear ge hc hh N gk l0 l1 l2 l3 f0 f1 f2 f3 gx gw gv;generalize w5.setCell ⟨D,2,none⟩ (.slice A l.length cp)=w6 at *;obtain⟨l0,l1,l2,l3,f0,f1,f2,f3⟩:=ab g7;have b6:=hu.cell 0;simp at b6;have gl:=g7.lt;have hw:=qi gl;(have I:E.R≠D.heap.size:=by omega);cases hP:dp F E.c s2 with
   |out=>exact absurd gs.out.symm (by rw[hP];exact gu.out)
   | ok n s3=>
    have HC:=hid (fun W(hr:aU E W s2)=>um E F hF W s2 hr (by rw[hP];exact nofun));have HF:Hid (res=.ok (.mk 12 ⟨#[]⟩ [.mk 6 ⟨#[]⟩ l (aM E.c s),n] p) s3):=hid (by rw[<-gs.out,hP];rfl);rw[hP]at HC;clear gs hP;(have J:D.heap.size≠w.heap.size+1:=by omega);(have g4:w.heap.size≠w.heap.size+1:=by omega);have s6:nm ⟨D,0,none⟩ ⟨D,1,none⟩ ⟨D,2,none⟩ ⟨D,3,none⟩ ⟨w,0,none⟩ (.int .i64 6) (.string ⟨#[]⟩) (.slice A l.length cp) (.int .i64 (aM E.c s)) (.pointer (some ⟨E.R,0,none⟩)) w6:=⟨l0,l1,l2,l3,b6⟩;go_region_held3 (fun w'=>w'.cell? ⟨D,0,none⟩=some (.int .i64 6)/\w'.cell? ⟨D,1,none⟩=some (.string ⟨#[]⟩)/\w'.cell? ⟨D,2,none⟩=some (.slice A l.length cp)/\w'.cell? ⟨D,3,none⟩=some (.int .i64 (aM E.c s))/\w'.cell? ⟨w,0,none⟩=some (.pointer (some ⟨E.R,0,none⟩)))
     (first|with_reducible exact s9 _ _ _ _|with_reducible exact s8|with_reducible exact s7.alloc _|with_reducible exact s7|with_reducible exact s6.drew)
     (first
      |(go_at_call 132;refine(HC.out _ (g5.drew).rd).mono ?_;rintro e w7⟨⟨v,rfl,hv⟩,M⟩;obtain⟨An,cn,rfl,hC⟩:=hv.toC;have hp:=g5.drew.trans M;have s7:=s6.drew.grown M.gr I.symm I.symm I.symm I.symm gi)
      |(go_at_call 64;refine(aQ _ _ _ _ _ ⟨_,_,_,rfl⟩).mono ?_;rintro e w8⟨rfl,gb⟩;have s8:=(s7.alloc _).below gb;have s9:=s8.put (w.heap.size+1) J J J J g4;have g9:=((ha.drew.grown M.gr).alloc _).below gb (by have:=(ha.drew.grown M.gr).lt;simp;omega);obtain⟨g0,g1,g2,g3,k0,k1,k2,k3⟩:=ab g9))
    (all_goals go_wp2_with fail);have h4:=M.gr.size;have h2:w6.drew.heap.size=w6.heap.size:=rfl;have hl:=(hm.kept ((ar.refl _ _).drew.trans (ar.of_grown M.gr (fun g e hX=>by injection e with e;subst e;omega)))).mono (Y:=fun b=>D.heap.size+1<=b) (fun b hb _=>hb);obtain⟨AL,cL,eL,ht⟩:=(af.of_slice hl 6 ⟨#[]⟩ (aM E.c s)).toC;simp only[Nd.kids_mk,Nd.kind_mk,Nd.text_mk,Nd.pos_mk,Value.agg.injEq,Array.mk.injEq,qD,Value.slice.injEq,true_and,vD]at eL;obtain⟨rfl,rfl⟩:=eL;have hV:=af.make 2 rfl (ag.cons ht (ag.one (hC.mono (Y:=fun b=>D.heap.size+1<=b) fun b hb _=>by omega))) 12 ⟨#[]⟩ p gb;refine aC HF.out hV ((hp.alloc _).step gb) g9 (by omega) (by omega) ?_ rfl (by rfl) rfl;rintro b(⟨hb,_⟩|rfl)<;>constructor<;>omega
theorem F3(a:Array Value)(w:World):(callFunc 130 a).run prog w=.ok (.enter 130 a) w:=by kernel_rfl
theorem pP(E:cy)(F:iE)(hF:pw E F)(p:Int)(w:World)(s:St)(h:aU E w s)(gz:nN F p E.c s≠.out):
  Calls prog 87 #[E.R,p] w (pO E w (nN F p E.c s)):=by
 generalize hres:nN F p E.c s=res at *;have ga:=hid hres;have gu:=hid gz;have hy:=h.lt;clear hres gz;(go_enter func87,ntmps87);go_wp2_with fail;have hj:an ((w.alloc (.cells #[E.R] 52)).alloc (.cells bP 24)) w.heap.size 52 #[E.R]:=(an.new w _ _).alloc _;(have hg:an ((w.alloc (.cells #[E.R] 52)).alloc (.cells bP 24)) (w.heap.size+1) 24 bP:=by have:=an.new (w.alloc (.cells #[E.R] 52)) 24 bP;simpa using this);refine(b8 E s _ ((h.alloc _).alloc _)).mono ?_;unfold iI;rintro e w1⟨rfl,gd⟩;have gy:=(((cN.refl h).alloc _).alloc _).step gd;have gp:=hg.below gd (by simp);have gh:=hj.below gd (by simp;omega);have b1:=gh.cell 0;simp at b1;clear gd hg hj;go_wp2_with fail;cases hA:aS E.c s ⟨#[40]⟩with
 |false=>exact absurd (show res=.out by rw[<-ga.out,nN,ci];simp[hA]) gu.out
 | true=>
  have gt:=hid (show((a6 (fp F) ⟨#[41]⟩ F.g [] E.c (adv s)).bind fun l s2=>(dp F E.c s2).bind fun r s3=>.ok (.mk 12 ⟨#[]⟩ [.mk 6 ⟨#[]⟩ l (aM E.c s),r] p) s3)=res by rw[<-ga.out,nN,ci];simp only[hA,kW,cC.bind_ok]);refine(dU E s _ w1 gy.rd hA).mono ?_;rintro e w2⟨rfl,O⟩;have hf:=gp.grown O.gr;have hi:=gh.grown O.gr;have gj:=gy.moved.trans O;have h1:=gh.lt;have h0:=gp.lt;have h7:=O.gr.size;clear ga hA O gp gh b1;go_wp2_with fail;refine(aQ _ _ _ _ _ ⟨_,_,_,rfl⟩).mono ?_;rintro e D⟨rfl,U⟩;have g6:=gj.step U;have gn:=hf.below U (by omega);have gg:=hi.below U (by omega);have b3:=gg.cell 0;simp at b3;have h6:=U.size;have hq:=gn.lt;have gm:=gg.lt;have ho:=qi gm;clear U hf hi gj;go_wp2_with fail;have gk:=g6.alloc (.cells #[.int .i64 6,.string ⟨#[]⟩,.slice none 0 0,.int .i64 (aM E.c s)] 24);have gq:=gg.alloc (.cells #[.int .i64 6,.string ⟨#[]⟩,.slice none 0 0,.int .i64 (aM E.c s)] 24);have he:=gn.alloc (.cells #[.int .i64 6,.string ⟨#[]⟩,.slice none 0 0,.int .i64 (aM E.c s)] 24);have g8:=an.new D 24 #[.int .i64 6,.string ⟨#[]⟩,.slice none 0 0,.int .i64 (aM E.c s)];(have h5:(D.alloc (.cells #[.int .i64 6,.string ⟨#[]⟩,.slice none 0 0,.int .i64 (aM E.c s)] 24)).heap.size=D.heap.size+1:=by simp);(have gi:w.heap.size≠E.R:=by omega);clear g6 gg gn;cases hR:a6 (fp F) ⟨#[41]⟩ F.g [] E.c (adv s)with
  |out=>exact absurd gt.out.symm (by rw[hR];exact gu.out)
  | ok l s2=>
   have gs:=hid (show(dp F E.c s2).bind (fun r s3=>.ok (.mk 12 ⟨#[]⟩ [.mk 6 ⟨#[]⟩ l (aM E.c s),r] p) s3)=res by rw[<-gt.out,hR];rfl);refine(pq E 130 #[] #[w] (fp F) ⟨#[41]⟩ F.g (adv s) _ gk.rd F3 (IP E F hF w.heap.size _ gq gi) (by rw[hR];exact nofun) hF.g).mono ?_;rw[hR];rintro e w5⟨⟨v,rfl,hv⟩,N⟩;obtain⟨A,cp,xs,rfl,gx,gw,gv⟩:=hv;have ge:=g8.grown N.gr;have hc:=he.grown N.gr;have hh:=gq.grown N.gr;obtain⟨l0,l1,l2,l3,f0,f1,f2,f3⟩:=ab ge;have hz:=ge.lt;clear hR gt g8 he gq;go_wp2_with fail;(have g7:an (w5.setCell ⟨D,2,none⟩ (.slice A l.length cp)) D.heap.size 24 #[.int .i64 6,.string ⟨#[]⟩,.slice A l.length cp,.int .i64 (aM E.c s)]:=by simpa using ge.set_ 2 (.slice A l.length cp));have ha:=hc.far (p:=⟨D,2,none⟩) (by show w.heap.size+1≠D.heap.size;omega) (.slice A l.length cp);have hu:=hh.far (p:=⟨D,2,none⟩) (by show w.heap.size≠D.heap.size;omega) (.slice A l.length cp);have g5:=(gk.trans N).own (p:=⟨D,2,none⟩) (by show w.heap.size<=D.heap.size;omega) (by show E.R<D.heap.size;omega) (.slice A l.length cp);(have hm:cS (fun b=>D.heap.size+1<=b) (w5.setCell ⟨D,2,none⟩ (.slice A l.length cp)) (.slice A l.length cp) l:=by have hk:ar (fun b=>D.heap.size+1<=b) w5 (w5.setCell ⟨D,2,none⟩ (.slice A l.length cp)):=(ar.refl _ _).setCell (fun h=>by simp at h;omega) _;have hn:cS (fun b=>D.heap.size+1<=b) w5 (.slice A l.length cp) l:=⟨A,cp,xs,rfl,gx,by simpa using gw,by simpa using gv⟩;exact hn.kept hk);(have h3:w5.heap.size<=(w5.setCell ⟨D,2,none⟩ (.slice A l.length cp)).heap.size:=by simp);clear ge hc hh N gk l0 l1 l2 l3 f0 f1 f2 f3 gx gw gv;generalize w5.setCell ⟨D,2,none⟩ (.slice A l.length cp)=w6 at *;obtain⟨l0,l1,l2,l3,f0,f1,f2,f3⟩:=ab g7;have b6:=hu.cell 0;simp at b6;have gl:=g7.lt;have hw:=qi gl;(have I:E.R≠D.heap.size:=by omega);cases hP:dp F E.c s2 with
   |out=>exact absurd gs.out.symm (by rw[hP];exact gu.out)
   | ok n s3=>
    have HC:=hid (fun W(hr:aU E W s2)=>um E F hF W s2 hr (by rw[hP];exact nofun));have HF:Hid (res=.ok (.mk 12 ⟨#[]⟩ [.mk 6 ⟨#[]⟩ l (aM E.c s),n] p) s3):=hid (by rw[<-gs.out,hP];rfl);rw[hP]at HC;clear gs hP;(have J:D.heap.size≠w.heap.size+1:=by omega);(have g4:w.heap.size≠w.heap.size+1:=by omega);have s6:nm ⟨D,0,none⟩ ⟨D,1,none⟩ ⟨D,2,none⟩ ⟨D,3,none⟩ ⟨w,0,none⟩ (.int .i64 6) (.string ⟨#[]⟩) (.slice A l.length cp) (.int .i64 (aM E.c s)) (.pointer (some ⟨E.R,0,none⟩)) w6:=⟨l0,l1,l2,l3,b6⟩;go_region_held3 (fun w'=>w'.cell? ⟨D,0,none⟩=some (.int .i64 6)/\w'.cell? ⟨D,1,none⟩=some (.string ⟨#[]⟩)/\w'.cell? ⟨D,2,none⟩=some (.slice A l.length cp)/\w'.cell? ⟨D,3,none⟩=some (.int .i64 (aM E.c s))/\w'.cell? ⟨w,0,none⟩=some (.pointer (some ⟨E.R,0,none⟩)))
     (first|with_reducible exact s9 _ _ _ _|with_reducible exact s8|with_reducible exact s7.alloc _|with_reducible exact s7|with_reducible exact s6.drew)
     (first
      |(go_at_call 132;refine(HC.out _ (g5.drew).rd).mono ?_;rintro e w7⟨⟨v,rfl,hv⟩,M⟩;obtain⟨An,cn,rfl,hC⟩:=hv.toC;have hp:=g5.drew.trans M;have s7:=s6.drew.grown M.gr I.symm I.symm I.symm I.symm gi)
      |(go_at_call 64;refine(aQ _ _ _ _ _ ⟨_,_,_,rfl⟩).mono ?_;rintro e w8⟨rfl,gb⟩;have s8:=(s7.alloc _).below gb;have s9:=s8.put (w.heap.size+1) J J J J g4;have g9:=((ha.drew.grown M.gr).alloc _).below gb (by have:=(ha.drew.grown M.gr).lt;simp;omega);obtain⟨g0,g1,g2,g3,k0,k1,k2,k3⟩:=ab g9))
    (all_goals go_wp2_with fail);have h4:=M.gr.size;have h2:w6.drew.heap.size=w6.heap.size:=rfl;have hl:=(hm.kept ((ar.refl _ _).drew.trans (ar.of_grown M.gr (fun g e hX=>by injection e with e;subst e;omega)))).mono (Y:=fun b=>D.heap.size+1<=b) (fun b hb _=>hb);obtain⟨AL,cL,eL,ht⟩:=(af.of_slice hl 6 ⟨#[]⟩ (aM E.c s)).toC;simp only[Nd.kids_mk,Nd.kind_mk,Nd.text_mk,Nd.pos_mk,Value.agg.injEq,Array.mk.injEq,qD,Value.slice.injEq,true_and,vD]at eL;obtain⟨rfl,rfl⟩:=eL;have hV:=af.make 2 rfl (ag.cons ht (ag.one (hC.mono (Y:=fun b=>D.heap.size+1<=b) fun b hb _=>by omega))) 12 ⟨#[]⟩ p gb;refine aC HF.out hV ((hp.alloc _).step gb) g9 (by omega) (by omega) ?_ rfl (by rfl) rfl;rintro b(⟨hb,_⟩|rfl)<;>constructor<;>omega
end
end Go.Proofs.YtiebcdeafofgdaaGreatDoor
