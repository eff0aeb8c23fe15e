/-
  Parts of the proof: Rslice Rkit Rtyp Rft Rsig. By an AI agent.
-/
import Derived.Test.YteialcjaiocjdaaGreatDoorJ03
import Derived.Test.YteialcjaiocjdaaGreatDoorJ00
import Derived.Defers
import Derived.Recover
import Derived.IntWalk
import Derived.Deep.RegionHeld2
open Go.Proofs.Tryz
set_option maxRecDepth 100000
set_option maxHeartbeats 8000000
namespace Go.Proofs.YteialcjaiocjdaaGreatDoor
section
open Go.RowKit Go.Lib Go.Proofs
attribute [local go_sem ↓] Go.wp_at_zero Go.wp_at_succ
theorem jC:type_of% @Go.IntWalk.i64_in:=@Go.IntWalk.i64_in
theorem jD:type_of% @Go.World.block_lt_of_cell?:=@Go.World.block_lt_of_cell?
theorem jQ:type_of% @Go.wpQuiet_nil:=@Go.wpQuiet_nil
theorem qx:type_of% @List.cons.injEq:=@List.cons.injEq
theorem vy:type_of% @and_true:=@and_true
def Uf(E:cw)(s:St)(b off:Nat)(k:Int)(x:ByteArray)(w:World):Prop:=
 w.cell? ⟨E.R,0,none⟩=some (.slice (some ⟨b,off,none⟩) E.c.toks.length E.cap)/\w.cell? ⟨E.R,1,none⟩=some (.int .i64 s.at_) /\
 w.cell? ⟨b,off+(s.at_+1)*3,none⟩=some (.int .i64 k)/\w.cell? ⟨b,off+(s.at_+1)*3+1,none⟩=some (.string x)
theorem Lf{E:cw}{s:St}{w:World}(h:aU E w s)(D:s.at_+1<E.c.toks.length):∃b off,∀w',aU E w' s->Uf E s b off (az E.c (s.at_+1)).kind (az E.c (s.at_+1)).text w':=by obtain⟨b,off,eA,hb,t0,U,O⟩:=h.tok _ D;refine⟨b,off,fun w' h'=>?_⟩;obtain⟨c0,c1,_,_,_,_⟩:=h'.cells;obtain⟨b',off',eA',N,J,I,M⟩:=h'.tok _ D;rw[eA]at eA' c0;injection eA' with e;injection e with e1 e2;subst e1 e2;exact⟨c0,c1,J,I⟩
theorem pG(E:cw)(s:St)(w:World)(h:aU E w s):Calls prog 105 #[E.R] w fun e w'=>e=.returned (.bool (cY E.c s))/\cJ E s w w':=by
 have M:=hid (fun w'(h:aU E w' s)=>bY E s ⟨#[91]⟩ w' h);have O:=h.most;have J:=cJ.refl h;by_cases D:aP E.c s ⟨#[91]⟩=true
 ·have U:=oZ h D;by_cases I:s.at_+1<E.c.toks.length
  ·obtain⟨b,off,hS⟩:=Lf h I;have N:=hid hS;(have hs:cY E.c s=((az E.c (s.at_+1)).kind==6&&((az E.c (s.at_+1)).text.toList==(⟨#[93]⟩:BA).toList)):=by unfold cY;rw[D,gT I,cz];unfold az;rw[gT I];rfl);rw[hs];(have g1:decide ((s.at_:Int)+1<(E.c.toks.length:Int))=true:=by simp;omega);(have g2:(0:Int)<=(s.at_:Int)+1:=by omega);(have g3:(s.at_:Int)+1<(E.c.toks.length:Int):=by omega);have g4:IntKind.i64.wrap ((s.at_:Int)+1)=(s.at_:Int)+1:=jC _ (by omega);(have g5:((s.at_:Int)+1).toNat=s.at_+1:=by omega);rw[D]at M;clear hs hS D;generalize az E.c (s.at_+1)=t at *;obtain⟨tk,tt,tp⟩:=t;simp only at *;have k0:∀n:Wd (cJ E s w),n.wd.cell? ⟨E.R,0,none⟩=some (.slice (some ⟨b,off,none⟩) E.c.toks.length E.cap):=fun n=>(N.out _ n.ok.rd).1;have k1:∀n:Wd (cJ E s w),n.wd.cell? ⟨E.R,1,none⟩=some (.int .i64 s.at_):=fun n=>(N.out _ n.ok.rd).2.1;have k2:∀n:Wd (cJ E s w),n.wd.cell? ⟨b,off+(s.at_+1)*3,none⟩=some (.int .i64 tk):=fun n=>(N.out _ n.ok.rd).2.2.1;have k3:∀n:Wd (cJ E s w),n.wd.cell? ⟨b,off+(s.at_+1)*3+1,none⟩=some (.string tt):=fun n=>(N.out _ n.ok.rd).2.2.2;(have z1:(⟨#[93]⟩:BA).toList=[93]:=by decide +kernel);rw[z1];cases h1:(tk==6)<;>cases h2:(tt.toList==[93]);all_goals
    (go_enter func105,ntmps105);go_wp2_with fail;haveI:Nonempty (Wd (cJ E s w)):=⟨⟨w,J⟩⟩
    refine iE (cJ E s w) (by kernel_rfl) (by kernel_rfl) J.drew ?_;(repeat(go_big_quiet_step ((go_at_call 33;rename_i n;refine(M.out _ n.ok.rd).mono ?_;rintro e w'⟨rfl,hb⟩;exact⟨rfl,⟨w',n.ok.step hb⟩,rfl⟩))));refine jQ ?_;intro n;go_wp2_with fail;go_ret;exact⟨rfl,n.ok⟩
  ·(have hs:cY E.c s=false:=by unfold cY;rw[D,qy (by omega)];rfl);rw[hs];(have g1:decide ((s.at_:Int)+1<(E.c.toks.length:Int))=false:=by simp;omega);have g4:IntKind.i64.wrap ((s.at_:Int)+1)=(s.at_:Int)+1:=jC _ (by omega);have k0:∀n:Wd (cJ E s w),n.wd.cell? ⟨E.R,0,none⟩=some (.slice E.A E.c.toks.length E.cap):=fun n=>n.ok.rd.cells.1;have k1:∀n:Wd (cJ E s w),n.wd.cell? ⟨E.R,1,none⟩=some (.int .i64 s.at_):=fun n=>n.ok.rd.cells.2.1;rw[D]at M;clear hs D
   ·(go_enter func105,ntmps105);go_wp2_with fail;haveI:Nonempty (Wd (cJ E s w)):=⟨⟨w,J⟩⟩
    refine iE (cJ E s w) (by kernel_rfl) (by kernel_rfl) J.drew ?_;(repeat(go_big_quiet_step ((go_at_call 33;rename_i n;refine(M.out _ n.ok.rd).mono ?_;rintro e w'⟨rfl,hb⟩;exact⟨rfl,⟨w',n.ok.step hb⟩,rfl⟩))));refine jQ ?_;intro n;go_wp2_with fail;go_ret;exact⟨rfl,n.ok⟩
 ·(have hs:cY E.c s=false:=by unfold cY;simp[D]);rw[hs];rw[show aP E.c s ⟨#[91]⟩=false by simpa using D]at M;clear hs D
  ·go_enter func105,ntmps105
   ·go_wp2_with fail;haveI:Nonempty (Wd (cJ E s w)):=⟨⟨w,J⟩⟩
    refine iE (cJ E s w) (by kernel_rfl) (by kernel_rfl) J.drew ?_;(repeat(go_big_quiet_step ((go_at_call 33;rename_i n;refine(M.out _ n.ok.rd).mono ?_;rintro e w'⟨rfl,hb⟩;exact⟨rfl,⟨w',n.ok.step hb⟩,rfl⟩))));refine jQ ?_;intro n;go_wp2_with fail;go_ret;exact⟨rfl,n.ok⟩
end
section
open Go.RowKit Go.Lib Go.Proofs
def d9(E:cw)(m:R Nd)(f:FuncId):Prop:=
 ∀(w:World)(s:St),aU E w s->m E.c s≠.out->Calls prog f #[E.R] w (mu E w (m E.c s))
structure nE(E:cw)(F:fK):Prop where
 typ:d9 E F.typ 110
 expr:d9 E F.expr 32
 unary:d9 E F.unary 80
 stmt:d9 E F.stmt 114
 ifS:d9 E F.ifS 169
 g:F.g<=1000000
theorem d9.part{E:cw}{m:R Nd}{f:FuncId}(h:d9 E m f)(w0:World):ie E f #[E.R] m w0:=fun w s _ hr hm=>h w s hr hm
theorem af.make{X:Nat->Prop}{wj w2:World}{l:List Nd}{xs:List Value}(k:Nat)(M:l.length=k)(J:ah X wj l xs)(kind:Int)(t:ByteArray)(pos:Int)
  (hb:Below (wj.alloc (.cells xs.toArray 24)).heap.size (wj.alloc (.cells xs.toArray 24)) w2):
  af (fun b=>(X b/\b<wj.heap.size)\/b=wj.heap.size) w2 (.agg #[kind,t,.slice (some ⟨wj,0,none⟩) k k,pos]) (.mk kind t l pos):=by
 subst M;have I:aq w2 wj.heap.size 24 xs.toArray:=(aq.new wj 24 xs.toArray).below hb (by simp);refine⟨some ⟨wj,0,none⟩,l.length,xs,rfl,gC _,⟨J.len,fun _=>⟨wj.heap.size,0,rfl,.inr rfl,fun j u hu=>?_⟩⟩,?_⟩
 ·have:=I.cell (0+j);rw[this,kR];simpa using hu
 ·refine((J.mono (Y:=fun b=>X b/\b<wj.heap.size) fun b hb D=>⟨hb,D⟩).keep (w':=w2) fun b hx D=>?_).mono fun b hb _=>.inl hb;exact(hb.block b (by simp;omega)).trans (jI wj _ b D)
theorem af.leaf{X:Nat->Prop}{w:World}(kind:Int)(t:ByteArray)(pos:Int):af X w (.agg #[kind,t,.slice none 0 0,pos]) (.mk kind t [] pos):=
 ⟨none,0,[],rfl,gC _,⟨rfl,fun h=>absurd h (by simp)⟩,ah.nil⟩
theorem af.of_slice{X:Nat->Prop}{w:World}{v:Value}{l:List Nd}(h:cV X w v l)(kind:Int)(t:ByteArray)(pos:Int):af X w (.agg #[kind,t,v,pos]) (.mk kind t l pos):=by obtain⟨A,cap,xs,rfl,J,I,D⟩:=h;exact⟨A,cap,xs,rfl,J,I,D⟩
theorem cell_kept{w w':World}(hb:Below w w w'){a:Addr}{v:Value}(D:w.cell? a=some v):w'.cell? a=some v:=(hb.cell (jD w a D)).trans D
abbrev nF(a0 a1 a2 a3 a4:Addr)(v0 v1 v2 v3 v4:Value)(w:World):Prop:=w.cell? a0=some v0/\w.cell? a1=some v1/\w.cell? a2=some v2/\w.cell? a3=some v3/\w.cell? a4=some v4
section
variable {a0 a1 a2 a3 a4:Addr} {v0 v1 v2 v3 v4:Value} {w w':World}
theorem nF.below(h:nF a0 a1 a2 a3 a4 v0 v1 v2 v3 v4 w)(hb:Below w w w'):nF a0 a1 a2 a3 a4 v0 v1 v2 v3 v4 w':=
 ⟨cell_kept hb h.1,cell_kept hb h.2.1,cell_kept hb h.2.2.1,cell_kept hb h.2.2.2.1,cell_kept hb h.2.2.2.2⟩
theorem nF.drew(h:nF a0 a1 a2 a3 a4 v0 v1 v2 v3 v4 w):nF a0 a1 a2 a3 a4 v0 v1 v2 v3 v4 w.drew:=h.below (gH _ _).drew
theorem nF.alloc(h:nF a0 a1 a2 a3 a4 v0 v1 v2 v3 v4 w)(o:Obj):nF a0 a1 a2 a3 a4 v0 v1 v2 v3 v4 (w.alloc o):=h.below ((gH _ _).alloc (gC _) o)
theorem nF.far(h:nF a0 a1 a2 a3 a4 v0 v1 v2 v3 v4 w){p:Addr}(u:Value)(N:a0.block≠p.block)(M:a1.block≠p.block)(J:a2.block≠p.block)(I:a3.block≠p.block)(D:a4.block≠p.block):nF a0 a1 a2 a3 a4 v0 v1 v2 v3 v4 (w.setCell p u):=
 have k:∀(a:Addr)(v:Value),w.cell? a=some v->a.block≠p.block->(w.setCell p u).cell? a=some v:=fun a _ hc hn=>(kY (jU w p u a.block hn)).trans hc
 ⟨k _ _ h.1 N,k _ _ h.2.1 M,k _ _ h.2.2.1 J,k _ _ h.2.2.2.1 I,k _ _ h.2.2.2.2 D⟩
theorem nF.put(h:nF a0 a1 a2 a3 a4 v0 v1 v2 v3 v4 w)(g:Nat)(N:a0.block≠g)(M:a1.block≠g)(J:a2.block≠g)(I:a3.block≠g)(D:a4.block≠g)(a b c d:Value):
  nF a0 a1 a2 a3 a4 v0 v1 v2 v3 v4 ((((w.setCell ⟨g,0,none⟩ a).setCell ⟨g,1,none⟩ b).setCell ⟨g,2,none⟩ c).setCell ⟨g,3,none⟩ d):=
 (((h.far (p:=⟨g,0,none⟩) a N M J I D).far (p:=⟨g,1,none⟩) b N M J I D).far (p:=⟨g,2,none⟩) c N M J I D).far (p:=⟨g,3,none⟩) d N M J I D
theorem nF.grown{R:Nat}(h:nF a0 a1 a2 a3 a4 v0 v1 v2 v3 v4 w)(D:w.grownBy w' (some R))(O:a0.block≠R)(N:a1.block≠R)(M:a2.block≠R)(J:a3.block≠R)(I:a4.block≠R):nF a0 a1 a2 a3 a4 v0 v1 v2 v3 v4 w':=
 have k:∀(a:Addr)(v:Value),w.cell? a=some v->a.block≠R->w'.cell? a=some v:=fun a _ hc hn=>
  (kY (D.block a.block (jD w a hc) (fun e=>hn (by injection e)))).trans hc
 ⟨k _ _ h.1 O,k _ _ h.2.1 N,k _ _ h.2.2.1 M,k _ _ h.2.2.2.1 J,k _ _ h.2.2.2.2 I⟩
end
def dT(w:World)(g:Nat)(a b c d:Value):World:=(((w.setCell ⟨g,0,none⟩ a).setCell ⟨g,1,none⟩ b).setCell ⟨g,2,none⟩ c).setCell ⟨g,3,none⟩ d
theorem dy{w:World}{g:Nat}{z0 z1 z2 z3:Value}(h:aq w g 24 #[z0,z1,z2,z3])(a b c d:Value):aq (dT w g a b c d) g 24 #[a,b,c,d]:=by unfold dT;have:=(((h.set_ 0 a).set_ 1 b).set_ 2 c).set_ 3 d;simpa using this
theorem fi{E:cw}{s:St}{w wk:World}{g:Nat}(h:aA E s w wk)(D:w.heap.size<=g)(I:E.R<g)(a b c d:Value):aA E s w (dT wk g a b c d):=
 (((h.own (p:=⟨g,0,none⟩) D I a).own (p:=⟨g,1,none⟩) D I b).own (p:=⟨g,2,none⟩) D I c).own (p:=⟨g,3,none⟩) D I d
theorem dn{X:Nat->Prop}{wk:World}{g:Nat}(D:∀b,X b->b≠g)(a b c d:Value):am X wk (dT wk g a b c d):=
 ((((am.refl X wk).setCell (p:=⟨g,0,none⟩) (fun h=>D g h rfl) a).setCell (p:=⟨g,1,none⟩) (fun h=>D g h rfl) b).setCell (p:=⟨g,2,none⟩) (fun h=>D g h rfl) c).setCell (p:=⟨g,3,none⟩) (fun h=>D g h rfl) d
theorem av{E:cw}{w wk:World}{res:bQ Nd}{n:Nd}{s:St}{X:Nat->Prop}{a0 a1 a2 a3 z0 z1 z2 z3:Value}{g q:Nat}{fn:Func}{a:Act}(N:res=.ok n s)
  (J:af X wk (.agg #[a0,a1,a2,a3]) n)(O:aA E s w wk)(hb:aq wk g 24 #[z0,z1,z2,z3])(U:w.heap.size<=g)(h:E.R<g)(I:∀b,X b->w.heap.size<=b/\b≠g)
  (D:fn.results = #[.cell q 24])(M:a.tmps.getD q undef=.pointer (some ⟨g,0,none⟩))(hd:a.defers=[]):
  bodyPost prog fn (mu E w res) .ret a (dT wk g a0 a1 a2 a3):=by refine jY (eB D _ M (dy hb a0 a1 a2 a3)) hd ?_;rw[N];exact⟨⟨_,rfl,(J.kept (dn (fun b hb=>(I b hb).2) _ _ _ _)).mono fun b hb _=>(I b hb).1⟩,fi O U h _ _ _ _⟩
end
section
open Go.RowKit Go.Lib Go.Proofs
attribute [local go_sem ↓] Go.wp_at_zero Go.wp_at_succ
attribute [local go_sem] aR aS aT bu bv bw bz
theorem OZ(E:cw)(F:fK)(hF:nE E F)(B:Nat)(w0:World)(hB:aq w0 B 41 #[E.R])(ge:B≠E.R):
  ie E 209 #[B] (m8 F) w0:=by
 intro w s hw h hno;generalize hres:m8 F E.c s=res at *;have D:=hid hres;have gi:=hid hno;have M:=hB.grown hw (fun e=>ge (by injection e));have b0:=M.cell 0;have gk:=M.lt;have U:=h.lt;simp at b0;clear hres hno hB hw;(go_enter func209,ntmps209);go_wp2_with fail;refine(bL E s _ (h.alloc _)).mono ?_;unfold fY;rintro e w1⟨rfl,J⟩;have N:=((cJ.refl h).alloc _).step J;have gd:=(aq.new w 24 bJ).below J (by simp);have b1:=((M.alloc _).below J (by simp;omega)).cell 0;simp at b1;clear J;go_wp2_with fail;cases hP:F.typ E.c s with
 |out=>exact absurd D.out.symm (by rw[m8,hP];exact gi.out)
 |ok n s1=>have HF:Hid (res=.ok (.mk 8 ⟨#[]⟩ [n] (aD E.c s)) s1):=hid (by rw[<-D.out,m8,hP];rfl);refine(hF.typ w1 s N.rd (by rw[hP];exact nofun)).mono ?_;rw[hP];rintro e w2⟨⟨v,rfl,hv⟩,O⟩;obtain⟨A,cp,rfl,hC⟩:=hv.toC;have gb:=gd.grown O.gr;have gj:=gd.lt;have gh:=gb.lt;clear hP D;go_wp2_with fail;refine(aM _ _ _ _ _ ⟨_,_,_,rfl⟩).mono ?_;rintro e w3⟨rfl,I⟩;have hV:=af.make 1 rfl (ah.one hC) 8 ⟨#[]⟩ (aD E.c s) I;have ga:=(gb.alloc _).below I (by simp;omega);have gg:=((N.moved.trans O).alloc _).step I;obtain⟨d0,d1,d2,d3,e0,e1,e2,e3⟩:=ab ga;clear I;go_wp2_with fail;refine av HF.out hV gg ga (gC _) U ?_ rfl (by rfl) rfl;rintro b(⟨hb,_⟩|rfl)<;>constructor<;>omega
theorem Lg(E:cw)(F:fK)(hF:nE E F)(B:Nat)(w0:World)(hB:aq w0 B 41 #[E.R])(ga:B≠E.R):
  ie E 109 #[B] (fC F) w0:=by
 intro w s hw h hno;generalize hres:fC F E.c s=res at *;have D:=hid hres;have gj:=hid hno;have O:=hB.grown hw (fun e=>ga (by injection e));have b0:=O.cell 0;have gq:=O.lt;have gd:=h.lt;simp at b0;clear hres hno hB hw;(go_enter func109,ntmps109);go_wp2_with fail;refine(bL E s _ (h.alloc _)).mono ?_;unfold fY;rintro e w1⟨rfl,M⟩;have U:=((cJ.refl h).alloc _).step M;have N:=(aq.new w 24 bJ).below M (by simp);have gi:=(O.alloc _).below M (by simp;omega);have b1:=gi.cell 0;simp at b1;clear M;go_wp2_with fail;by_cases hK:(az E.c s.at_).kind=1
 ·have HK:=hid hK;refine(lg E s w1 U.rd hK).mono ?_;rintro e w2⟨rfl,I⟩;have gh:=N.grown I.gr;have b2:=(gi.grown I.gr (fun e=>ga (by injection e))).cell 0;simp at b2;have gn:=N.lt;clear hK;go_wp2_with fail;cases hP:F.typ E.c (adv s)with
  |out=>exact absurd D.out.symm (by rw[fC,cT,gG HK.out,bQ.bind_ok,hP];exact gj.out)
  |ok n s1=>have HF:Hid (res=.ok (.mk 8 (az E.c s.at_).text [n] (aD E.c s)) s1):=hid (by rw[<-D.out,fC,cT,gG HK.out,bQ.bind_ok,hP];rfl);refine(hF.typ w2 (adv s) I.rd (by rw[hP];exact nofun)).mono ?_;rw[hP];rintro e w3⟨⟨v,rfl,hv⟩,gb⟩;obtain⟨A,cp,rfl,hC⟩:=hv.toC;have gg:=gh.grown gb.gr;have gp:=N.lt;have gm:=gh.lt;have gl:=gg.lt;have gs:=I.gr.size;clear hP D HK;go_wp2_with fail;refine(aM _ _ _ _ _ ⟨_,_,_,rfl⟩).mono ?_;rintro e w4⟨rfl,J⟩;have hV:=af.make 1 rfl (ah.one hC) 8 (az E.c s.at_).text (aD E.c s) J;have ge:=(gg.alloc _).below J (by simp;omega);have gk:=((U.moved.trans (I.trans gb)).alloc _).step J;obtain⟨d0,d1,d2,d3,e0,e1,e2,e3⟩:=ab ge;clear J;go_wp2_with fail;refine av HF.out hV gk ge (gC _) gd ?_ rfl (by rfl) rfl;rintro b(⟨hb,_⟩|rfl)<;>constructor<;>omega
 ·exact absurd (show res=.out by rw[<-D.out,fC,cT,gB hK];rfl) gj.out
theorem DS(E:cw)(F:fK)(gp:d9 E (ez F) 108)(B:Nat)(w0:World)(hB:aq w0 B 41 #[E.R])(ga:B≠E.R):
  ie E 107 #[B] (ev F) w0:=by
 intro w s hw h hno;generalize hres:ev F E.c s=res at *;have D:=hid hres;have gj:=hid hno;have O:=hB.grown hw (fun e=>ga (by injection e));have b0:=O.cell 0;have gs:=O.lt;have gd:=h.lt;simp at b0;clear hres hno hB hw;(go_enter func107,ntmps107);go_wp2_with fail;refine(bL E s _ (h.alloc _)).mono ?_;unfold fY;rintro e w1⟨rfl,M⟩;have U:=((cJ.refl h).alloc _).step M;have N:=(aq.new w 24 bJ).below M (by simp);have gi:=(O.alloc _).below M (by simp;omega);have b1:=gi.cell 0;simp at b1;clear M;go_wp2_with fail;by_cases hK:(az E.c s.at_).kind=1
 ·have HK:=hid hK;refine(lg E s w1 U.rd hK).mono ?_;rintro e w2⟨rfl,I⟩;have gh:=N.grown I.gr;have b2:=(gi.grown I.gr (fun e=>ga (by injection e))).cell 0;simp at b2;have gn:=N.lt;clear hK;go_wp2_with fail;cases hP:ez F E.c (adv s)with
  |out=>exact absurd D.out.symm (by rw[ev,cT,gG HK.out,bQ.bind_ok,hP];exact gj.out)
  |ok n s1=>have HF:Hid (res=.ok (.mk 7 (az E.c s.at_).text [n] (aD E.c s)) s1):=hid (by rw[<-D.out,ev,cT,gG HK.out,bQ.bind_ok,hP];rfl);refine(gp w2 (adv s) I.rd (by rw[hP];exact nofun)).mono ?_;rw[hP];rintro e w3⟨⟨v,rfl,hv⟩,gb⟩;obtain⟨A,cp,rfl,hC⟩:=hv.toC;have gg:=gh.grown gb.gr;have gq:=N.lt;have gm:=gh.lt;have gl:=gg.lt;have gt:=I.gr.size;clear hP D HK;go_wp2_with fail;refine(aM _ _ _ _ _ ⟨_,_,_,rfl⟩).mono ?_;rintro e w4⟨rfl,J⟩;have hV:=af.make 1 rfl (ah.one hC) 7 (az E.c s.at_).text (aD E.c s) J;have ge:=(gg.alloc _).below J (by simp;omega);have gk:=((U.moved.trans (I.trans gb)).alloc _).step J;obtain⟨d0,d1,d2,d3,e0,e1,e2,e3⟩:=ab ge;clear J;go_wp2_with fail;refine av HF.out hV gk ge (gC _) gd ?_ rfl (by rfl) rfl;rintro b(⟨hb,_⟩|rfl)<;>constructor<;>omega
 ·exact absurd (show res=.out by rw[<-D.out,ev,cT,gB hK];rfl) gj.out
theorem uG(E:cw)(F:fK)(hF:nE E F):d9 E (dt F) 111:=by
 intro w s h hno;generalize hres:dt F E.c s=res at *;have D:=hid hres;have gb:=hid hno;have J:=h.lt;clear hres hno;(go_enter func111,ntmps111);go_wp2_with fail;refine(Gw E s _ (h.alloc _)).mono ?_;rintro e w1⟨rfl,N⟩;have M:=((cJ.refl h).alloc _).step N.bel;have I:=(aq.new w 24 bJ).below N.bel (by simp);have gd:=I.lt;clear N;cases hT:oY E.c s with
 |false=>have HF:Hid (res=.ok cc s):=hid (by rw[<-D.out,dt,hT];rfl);obtain⟨d0,d1,d2,d3,e0,e1,e2,e3⟩:=ab I;go_wp2_with fail;refine av (X:=fun _=>False) HF.out af.zero M.moved I (gC _) J ?_ rfl (by rfl) rfl;exact fun _ h=>h.elim
 |true=>
  go_wp2_with fail;cases U:F.typ E.c s with
  |out=>exact absurd D.out.symm (by rw[dt,hT,gG rfl,U];exact gb.out)
  |ok n s1=>have HF:Hid (res=.ok n s1):=hid (by rw[<-D.out,dt,hT,gG rfl,U]);refine(hF.typ w1 s M.rd (by rw[U];exact nofun)).mono ?_;rw[U];rintro e w2⟨⟨v,rfl,hv⟩,O⟩;obtain⟨A,cp,rfl,hC⟩:=hv.toC;have ga:=I.grown O.gr;obtain⟨d0,d1,d2,d3,e0,e1,e2,e3⟩:=ab ga;clear U D;go_wp2_with fail;refine av HF.out hv (M.moved.trans O) ga (gC _) J ?_ rfl (by rfl) rfl;intro b hb;constructor<;>omega
theorem Lh(a:Array Value)(w:World):(callFunc 209 a).run prog w=.ok (.enter 209 a) w:=by kernel_rfl
theorem rY(E:cw)(F:fK)(hF:nE E F)(p:Int)(w:World)(s:St)(h:aU E w s)(gz:dk F p E.c s≠.out):
  Calls prog 167 #[E.R,p] w (mu E w (dk F p E.c s)):=by
 generalize hres:dk F p E.c s=res at *;have ga:=hid hres;have gu:=hid gz;have hy:=h.lt;clear hres gz;(go_enter func167,ntmps167);go_wp2_with fail;have hj:aq ((w.alloc (.cells #[E.R] 41)).alloc (.cells bJ 24)) w.heap.size 41 #[E.R]:=(aq.new w _ _).alloc _;(have hg:aq ((w.alloc (.cells #[E.R] 41)).alloc (.cells bJ 24)) (w.heap.size+1) 24 bJ:=by have:=aq.new (w.alloc (.cells #[E.R] 41)) 24 bJ;simpa using this);refine(bL E s _ ((h.alloc _).alloc _)).mono ?_;unfold fY;rintro e w1⟨rfl,gd⟩;have gy:=(((cJ.refl h).alloc _).alloc _).step gd;have gp:=hg.below gd (by simp);have gh:=hj.below gd (by simp;omega);have b1:=gh.cell 0;simp at b1;clear gd hg hj;go_wp2_with fail;cases hA:aP E.c s ⟨#[40]⟩with
 |false=>exact absurd (show res=.out by rw[<-ga.out,dk,bV];simp[hA]) gu.out
 | true=>
  have gt:=hid (show((bh (m8 F) ⟨#[41]⟩ F.g [] E.c (adv s)).bind fun l s2=>(dt F E.c s2).bind fun r s3=>.ok (.mk 12 ⟨#[]⟩ [.mk 6 ⟨#[]⟩ l (aD E.c s),r] p) s3)=res by rw[<-ga.out,dk,bV];simp only[hA,kG,bQ.bind_ok]);refine(de E s _ w1 gy.rd hA).mono ?_;rintro e w2⟨rfl,O⟩;have hf:=gp.grown O.gr;have hi:=gh.grown O.gr;have gj:=gy.moved.trans O;have h1:=gh.lt;have h0:=gp.lt;have h7:=O.gr.size;clear ga hA O gp gh b1;go_wp2_with fail;refine(aM _ _ _ _ _ ⟨_,_,_,rfl⟩).mono ?_;rintro e D⟨rfl,U⟩;have g6:=gj.step U;have gn:=hf.below U (by omega);have gg:=hi.below U (by omega);have b3:=gg.cell 0;simp at b3;have h6:=U.size;have hq:=gn.lt;have gm:=gg.lt;have ho:=qi gm;clear U hf hi gj;go_wp2_with fail;have gk:=g6.alloc (.cells #[.int .i64 6,.string ⟨#[]⟩,.slice none 0 0,.int .i64 (aD E.c s)] 24);have gq:=gg.alloc (.cells #[.int .i64 6,.string ⟨#[]⟩,.slice none 0 0,.int .i64 (aD E.c s)] 24);have he:=gn.alloc (.cells #[.int .i64 6,.string ⟨#[]⟩,.slice none 0 0,.int .i64 (aD E.c s)] 24);have g8:=aq.new D 24 #[.int .i64 6,.string ⟨#[]⟩,.slice none 0 0,.int .i64 (aD E.c s)];(have h5:(D.alloc (.cells #[.int .i64 6,.string ⟨#[]⟩,.slice none 0 0,.int .i64 (aD E.c s)] 24)).heap.size=D.heap.size+1:=by simp);(have gi:w.heap.size≠E.R:=by omega);clear g6 gg gn;cases hR:bh (m8 F) ⟨#[41]⟩ F.g [] E.c (adv s)with
  |out=>exact absurd gt.out.symm (by rw[hR];exact gu.out)
  | ok l s2=>
   have gs:=hid (show(dt F E.c s2).bind (fun r s3=>.ok (.mk 12 ⟨#[]⟩ [.mk 6 ⟨#[]⟩ l (aD E.c s),r] p) s3)=res by rw[<-gt.out,hR];rfl);refine(oa E 209 #[] #[w] (m8 F) ⟨#[41]⟩ F.g (adv s) _ gk.rd Lh (OZ E F hF w.heap.size _ gq gi) (by rw[hR];exact nofun) hF.g).mono ?_;rw[hR];rintro e w5⟨⟨v,rfl,hv⟩,N⟩;obtain⟨A,cp,xs,rfl,gx,gw,gv⟩:=hv;have ge:=g8.grown N.gr;have hc:=he.grown N.gr;have hh:=gq.grown N.gr;obtain⟨l0,l1,l2,l3,f0,f1,f2,f3⟩:=ab ge;have hz:=ge.lt;clear hR gt g8 he gq;go_wp2_with fail;(have g7:aq (w5.setCell ⟨D,2,none⟩ (.slice A l.length cp)) D.heap.size 24 #[.int .i64 6,.string ⟨#[]⟩,.slice A l.length cp,.int .i64 (aD E.c s)]:=by simpa using ge.set_ 2 (.slice A l.length cp));have ha:=hc.far (p:=⟨D,2,none⟩) (by show w.heap.size+1≠D.heap.size;omega) (.slice A l.length cp);have hu:=hh.far (p:=⟨D,2,none⟩) (by show w.heap.size≠D.heap.size;omega) (.slice A l.length cp);have g5:=(gk.trans N).own (p:=⟨D,2,none⟩) (by show w.heap.size<=D.heap.size;omega) (by show E.R<D.heap.size;omega) (.slice A l.length cp);(have hm:cV (fun b=>D.heap.size+1<=b) (w5.setCell ⟨D,2,none⟩ (.slice A l.length cp)) (.slice A l.length cp) l:=by have hk:am (fun b=>D.heap.size+1<=b) w5 (w5.setCell ⟨D,2,none⟩ (.slice A l.length cp)):=(am.refl _ _).setCell (fun h=>by simp at h;omega) _;have hn:cV (fun b=>D.heap.size+1<=b) w5 (.slice A l.length cp) l:=⟨A,cp,xs,rfl,gx,by simpa using gw,by simpa using gv⟩;exact hn.kept hk);(have h3:w5.heap.size<=(w5.setCell ⟨D,2,none⟩ (.slice A l.length cp)).heap.size:=by simp);clear ge hc hh N gk l0 l1 l2 l3 f0 f1 f2 f3 gx gw gv;generalize w5.setCell ⟨D,2,none⟩ (.slice A l.length cp)=w6 at *;obtain⟨l0,l1,l2,l3,f0,f1,f2,f3⟩:=ab g7;have b6:=hu.cell 0;simp at b6;have gl:=g7.lt;have hw:=qi gl;(have I:E.R≠D.heap.size:=by omega);cases hP:dt F E.c s2 with
   |out=>exact absurd gs.out.symm (by rw[hP];exact gu.out)
   | ok n s3=>
    have HC:=hid (fun W(hr:aU E W s2)=>uG E F hF W s2 hr (by rw[hP];exact nofun));have HF:Hid (res=.ok (.mk 12 ⟨#[]⟩ [.mk 6 ⟨#[]⟩ l (aD E.c s),n] p) s3):=hid (by rw[<-gs.out,hP];rfl);rw[hP]at HC;clear gs hP;(have J:D.heap.size≠w.heap.size+1:=by omega);(have g4:w.heap.size≠w.heap.size+1:=by omega);have s6:nF ⟨D,0,none⟩ ⟨D,1,none⟩ ⟨D,2,none⟩ ⟨D,3,none⟩ ⟨w,0,none⟩ (.int .i64 6) (.string ⟨#[]⟩) (.slice A l.length cp) (.int .i64 (aD E.c s)) (.pointer (some ⟨E.R,0,none⟩)) w6:=⟨l0,l1,l2,l3,b6⟩;go_region_held3 (fun w'=>w'.cell? ⟨D,0,none⟩=some (.int .i64 6)/\w'.cell? ⟨D,1,none⟩=some (.string ⟨#[]⟩)/\w'.cell? ⟨D,2,none⟩=some (.slice A l.length cp)/\w'.cell? ⟨D,3,none⟩=some (.int .i64 (aD E.c s))/\w'.cell? ⟨w,0,none⟩=some (.pointer (some ⟨E.R,0,none⟩)))
     (first|with_reducible exact s9 _ _ _ _|with_reducible exact s8|with_reducible exact s7.alloc _|with_reducible exact s7|with_reducible exact s6.drew)
     (first
      |(go_at_call 111;refine(HC.out _ (g5.drew).rd).mono ?_;rintro e w7⟨⟨v,rfl,hv⟩,M⟩;obtain⟨An,cn,rfl,hC⟩:=hv.toC;have hp:=g5.drew.trans M;have s7:=s6.drew.grown M.gr I.symm I.symm I.symm I.symm gi)
      |(go_at_call 55;refine(aM _ _ _ _ _ ⟨_,_,_,rfl⟩).mono ?_;rintro e w8⟨rfl,gb⟩;have s8:=(s7.alloc _).below gb;have s9:=s8.put (w.heap.size+1) J J J J g4;have g9:=((ha.drew.grown M.gr).alloc _).below gb (by have:=(ha.drew.grown M.gr).lt;simp;omega);obtain⟨g0,g1,g2,g3,k0,k1,k2,k3⟩:=ab g9))
    (all_goals go_wp2_with fail);have h4:=M.gr.size;have h2:w6.drew.heap.size=w6.heap.size:=rfl;have hl:=(hm.kept ((am.refl _ _).drew.trans (am.of_grown M.gr (fun g e hX=>by injection e with e;subst e;omega)))).mono (Y:=fun b=>D.heap.size+1<=b) (fun b hb _=>hb);obtain⟨AL,cL,eL,ht⟩:=(af.of_slice hl 6 ⟨#[]⟩ (aD E.c s)).toC;simp only[Nd.kids_mk,Nd.kind_mk,Nd.text_mk,Nd.pos_mk,Value.agg.injEq,Array.mk.injEq,qx,Value.slice.injEq,true_and,vy]at eL;obtain⟨rfl,rfl⟩:=eL;have hV:=af.make 2 rfl (ah.cons ht (ah.one (hC.mono (Y:=fun b=>D.heap.size+1<=b) fun b hb _=>by omega))) 12 ⟨#[]⟩ p gb;refine av HF.out hV ((hp.alloc _).step gb) g9 (by omega) (by omega) ?_ rfl (by rfl) rfl;rintro b(⟨hb,_⟩|rfl)<;>constructor<;>omega
theorem Gx(a:Array Value)(w:World):(callFunc 109 a).run prog w=.ok (.enter 109 a) w:=by kernel_rfl
theorem ra(E:cw)(F:fK)(hF:nE E F)(p:Int)(w:World)(s:St)(h:aU E w s)(gz:n7 F p E.c s≠.out):
  Calls prog 75 #[E.R,p] w (mu E w (n7 F p E.c s)):=by
 generalize hres:n7 F p E.c s=res at *;have ga:=hid hres;have gu:=hid gz;have hy:=h.lt;clear hres gz;(go_enter func75,ntmps75);go_wp2_with fail;have hj:aq ((w.alloc (.cells #[E.R] 41)).alloc (.cells bJ 24)) w.heap.size 41 #[E.R]:=(aq.new w _ _).alloc _;(have hg:aq ((w.alloc (.cells #[E.R] 41)).alloc (.cells bJ 24)) (w.heap.size+1) 24 bJ:=by have:=aq.new (w.alloc (.cells #[E.R] 41)) 24 bJ;simpa using this);refine(bL E s _ ((h.alloc _).alloc _)).mono ?_;unfold fY;rintro e w1⟨rfl,gd⟩;have gy:=(((cJ.refl h).alloc _).alloc _).step gd;have gp:=hg.below gd (by simp);have gh:=hj.below gd (by simp;omega);have b1:=gh.cell 0;simp at b1;clear gd hg hj;go_wp2_with fail;cases hA:aP E.c s ⟨#[40]⟩with
 |false=>exact absurd (show res=.out by rw[<-ga.out,n7,bV];simp[hA]) gu.out
 | true=>
  have gt:=hid (show((bh (fC F) ⟨#[41]⟩ F.g [] E.c (adv s)).bind fun l s2=>(dt F E.c s2).bind fun r s3=>.ok (.mk 12 ⟨#[]⟩ [.mk 6 ⟨#[]⟩ l (aD E.c s),r] p) s3)=res by rw[<-ga.out,n7,bV];simp only[hA,kG,bQ.bind_ok]);refine(de E s _ w1 gy.rd hA).mono ?_;rintro e w2⟨rfl,O⟩;have hf:=gp.grown O.gr;have hi:=gh.grown O.gr;have gj:=gy.moved.trans O;have h1:=gh.lt;have h0:=gp.lt;have h7:=O.gr.size;clear ga hA O gp gh b1;go_wp2_with fail;refine(aM _ _ _ _ _ ⟨_,_,_,rfl⟩).mono ?_;rintro e D⟨rfl,U⟩;have g6:=gj.step U;have gn:=hf.below U (by omega);have gg:=hi.below U (by omega);have b3:=gg.cell 0;simp at b3;have h6:=U.size;have hq:=gn.lt;have gm:=gg.lt;have ho:=qi gm;clear U hf hi gj;go_wp2_with fail;have gk:=g6.alloc (.cells #[.int .i64 6,.string ⟨#[]⟩,.slice none 0 0,.int .i64 (aD E.c s)] 24);have gq:=gg.alloc (.cells #[.int .i64 6,.string ⟨#[]⟩,.slice none 0 0,.int .i64 (aD E.c s)] 24);have he:=gn.alloc (.cells #[.int .i64 6,.string ⟨#[]⟩,.slice none 0 0,.int .i64 (aD E.c s)] 24);have g8:=aq.new D 24 #[.int .i64 6,.string ⟨#[]⟩,.slice none 0 0,.int .i64 (aD E.c s)];(have h5:(D.alloc (.cells #[.int .i64 6,.string ⟨#[]⟩,.slice none 0 0,.int .i64 (aD E.c s)] 24)).heap.size=D.heap.size+1:=by simp);(have gi:w.heap.size≠E.R:=by omega);clear g6 gg gn;cases hR:bh (fC F) ⟨#[41]⟩ F.g [] E.c (adv s)with
  |out=>exact absurd gt.out.symm (by rw[hR];exact gu.out)
  | ok l s2=>
   have gs:=hid (show(dt F E.c s2).bind (fun r s3=>.ok (.mk 12 ⟨#[]⟩ [.mk 6 ⟨#[]⟩ l (aD E.c s),r] p) s3)=res by rw[<-gt.out,hR];rfl);refine(oa E 109 #[] #[w] (fC F) ⟨#[41]⟩ F.g (adv s) _ gk.rd Gx (Lg E F hF w.heap.size _ gq gi) (by rw[hR];exact nofun) hF.g).mono ?_;rw[hR];rintro e w5⟨⟨v,rfl,hv⟩,N⟩;obtain⟨A,cp,xs,rfl,gx,gw,gv⟩:=hv;have ge:=g8.grown N.gr;have hc:=he.grown N.gr;have hh:=gq.grown N.gr;obtain⟨l0,l1,l2,l3,f0,f1,f2,f3⟩:=ab ge;have hz:=ge.lt;clear hR gt g8 he gq;go_wp2_with fail;(have g7:aq (w5.setCell ⟨D,2,none⟩ (.slice A l.length cp)) D.heap.size 24 #[.int .i64 6,.string ⟨#[]⟩,.slice A l.length cp,.int .i64 (aD E.c s)]:=by simpa using ge.set_ 2 (.slice A l.length cp));have ha:=hc.far (p:=⟨D,2,none⟩) (by show w.heap.size+1≠D.heap.size;omega) (.slice A l.length cp);have hu:=hh.far (p:=⟨D,2,none⟩) (by show w.heap.size≠D.heap.size;omega) (.slice A l.length cp);have g5:=(gk.trans N).own (p:=⟨D,2,none⟩) (by show w.heap.size<=D.heap.size;omega) (by show E.R<D.heap.size;omega) (.slice A l.length cp);(have hm:cV (fun b=>D.heap.size+1<=b) (w5.setCell ⟨D,2,none⟩ (.slice A l.length cp)) (.slice A l.length cp) l:=by have hk:am (fun b=>D.heap.size+1<=b) w5 (w5.setCell ⟨D,2,none⟩ (.slice A l.length cp)):=(am.refl _ _).setCell (fun h=>by simp at h;omega) _;have hn:cV (fun b=>D.heap.size+1<=b) w5 (.slice A l.length cp) l:=⟨A,cp,xs,rfl,gx,by simpa using gw,by simpa using gv⟩;exact hn.kept hk);(have h3:w5.heap.size<=(w5.setCell ⟨D,2,none⟩ (.slice A l.length cp)).heap.size:=by simp);clear ge hc hh N gk l0 l1 l2 l3 f0 f1 f2 f3 gx gw gv;generalize w5.setCell ⟨D,2,none⟩ (.slice A l.length cp)=w6 at *;obtain⟨l0,l1,l2,l3,f0,f1,f2,f3⟩:=ab g7;have b6:=hu.cell 0;simp at b6;have gl:=g7.lt;have hw:=qi gl;(have I:E.R≠D.heap.size:=by omega);cases hP:dt F E.c s2 with
   |out=>exact absurd gs.out.symm (by rw[hP];exact gu.out)
   | ok n s3=>
    have HC:=hid (fun W(hr:aU E W s2)=>uG E F hF W s2 hr (by rw[hP];exact nofun));have HF:Hid (res=.ok (.mk 12 ⟨#[]⟩ [.mk 6 ⟨#[]⟩ l (aD E.c s),n] p) s3):=hid (by rw[<-gs.out,hP];rfl);rw[hP]at HC;clear gs hP;(have J:D.heap.size≠w.heap.size+1:=by omega);(have g4:w.heap.size≠w.heap.size+1:=by omega);have s6:nF ⟨D,0,none⟩ ⟨D,1,none⟩ ⟨D,2,none⟩ ⟨D,3,none⟩ ⟨w,0,none⟩ (.int .i64 6) (.string ⟨#[]⟩) (.slice A l.length cp) (.int .i64 (aD E.c s)) (.pointer (some ⟨E.R,0,none⟩)) w6:=⟨l0,l1,l2,l3,b6⟩;go_region_held3 (fun w'=>w'.cell? ⟨D,0,none⟩=some (.int .i64 6)/\w'.cell? ⟨D,1,none⟩=some (.string ⟨#[]⟩)/\w'.cell? ⟨D,2,none⟩=some (.slice A l.length cp)/\w'.cell? ⟨D,3,none⟩=some (.int .i64 (aD E.c s))/\w'.cell? ⟨w,0,none⟩=some (.pointer (some ⟨E.R,0,none⟩)))
     (first|with_reducible exact s9 _ _ _ _|with_reducible exact s8|with_reducible exact s7.alloc _|with_reducible exact s7|with_reducible exact s6.drew)
     (first
      |(go_at_call 111;refine(HC.out _ (g5.drew).rd).mono ?_;rintro e w7⟨⟨v,rfl,hv⟩,M⟩;obtain⟨An,cn,rfl,hC⟩:=hv.toC;have hp:=g5.drew.trans M;have s7:=s6.drew.grown M.gr I.symm I.symm I.symm I.symm gi)
      |(go_at_call 55;refine(aM _ _ _ _ _ ⟨_,_,_,rfl⟩).mono ?_;rintro e w8⟨rfl,gb⟩;have s8:=(s7.alloc _).below gb;have s9:=s8.put (w.heap.size+1) J J J J g4;have g9:=((ha.drew.grown M.gr).alloc _).below gb (by have:=(ha.drew.grown M.gr).lt;simp;omega);obtain⟨g0,g1,g2,g3,k0,k1,k2,k3⟩:=ab g9))
    (all_goals go_wp2_with fail);have h4:=M.gr.size;have h2:w6.drew.heap.size=w6.heap.size:=rfl;have hl:=(hm.kept ((am.refl _ _).drew.trans (am.of_grown M.gr (fun g e hX=>by injection e with e;subst e;omega)))).mono (Y:=fun b=>D.heap.size+1<=b) (fun b hb _=>hb);obtain⟨AL,cL,eL,ht⟩:=(af.of_slice hl 6 ⟨#[]⟩ (aD E.c s)).toC;simp only[Nd.kids_mk,Nd.kind_mk,Nd.text_mk,Nd.pos_mk,Value.agg.injEq,Array.mk.injEq,qx,Value.slice.injEq,true_and,vy]at eL;obtain⟨rfl,rfl⟩:=eL;have hV:=af.make 2 rfl (ah.cons ht (ah.one (hC.mono (Y:=fun b=>D.heap.size+1<=b) fun b hb _=>by omega))) 12 ⟨#[]⟩ p gb;refine av HF.out hV ((hp.alloc _).step gb) g9 (by omega) (by omega) ?_ rfl (by rfl) rfl;rintro b(⟨hb,_⟩|rfl)<;>constructor<;>omega
end
end Go.Proofs.YteialcjaiocjdaaGreatDoor
