/-
  Parts of the proof: Rsmall Rrow Rfree. By an AI agent.
-/
import Derived.Test.YtiebcdeafofgdaaGreatDoorJ02
import Derived.Deep.RegionHeld2
open Go.Proofs.Tryz
set_option maxRecDepth 100000
set_option maxHeartbeats 8000000
namespace Go.Proofs.YtiebcdeafofgdaaGreatDoor
section
open Go.RowKit Go.Lib Go.Proofs
attribute [local go_sem ↓] Go.wp_at_zero Go.wp_at_succ
theorem gL:type_of% @List.length_append:=@List.length_append
theorem jC:type_of% @Bool.false_eq_true:=@Bool.false_eq_true
theorem jL:type_of% @Go.World.size_alloc:=@Go.World.size_alloc
theorem kC:type_of% @Nat.le_trans:=@Nat.le_trans
theorem kH:type_of% @Nat.lt_of_lt_of_le:=@Nat.lt_of_lt_of_le
theorem kI:type_of% @if_false:=@if_false
theorem kQ:type_of% @Bool.eq_iff_iff:=@Bool.eq_iff_iff
theorem kS:type_of% @Nat.zero_add:=@Nat.zero_add
theorem kW:type_of% @if_true:=@if_true
theorem qo:type_of% @Option.isSome_none:=@Option.isSome_none
theorem qA:type_of% @Go.ByteArray.toList_eq:=@Go.ByteArray.toList_eq
theorem qJ:type_of% @List.not_mem_nil:=@List.not_mem_nil
theorem qO:type_of% @Go.info_parts:=@Go.info_parts
theorem qS:type_of% @List.mem_cons:=@List.mem_cons
theorem vc:type_of% @Go.World.ownsRow_nil:=@Go.World.ownsRow_nil
theorem vj:type_of% @List.getElem?_take_of_lt:=@List.getElem?_take_of_lt
theorem vx:type_of% @Go.wp_append_lies:=@Go.wp_append_lies
theorem vE:type_of% @or_false:=@or_false
theorem toList_inj{a b:ByteArray}:a.toList=b.toList↔a=b:=by
 constructor
 ·intro h;rw[qA,qA]at h;cases a;cases b;congr;exact Array.ext' h
 ·rintro rfl;rfl
theorem cu(a b:ByteArray):(a.toList==b.toList)=decide (a=b):=by rw[kQ];simp only[kF,gE];exact toList_inj
theorem aq(f:ByteArray):f.toList.isEmpty=decide (f=⟨#[]⟩):=by have h:=cu f ⟨#[]⟩;rw[<-h];(have e:(⟨#[]⟩:BA).toList=[]:=by rw[qA]);rw[e];cases f.toList<;>rfl
section
variable (a b c d:Value) (w:World)
theorem aV:(Instr.field 43 (.agg #[a,b,c]) 0).run prog w=.ok a w:=by kernel_rfl
theorem aW:(Instr.field 43 (.agg #[a,b,c]) 1).run prog w=.ok b w:=by kernel_rfl
theorem aX:(Instr.field 43 (.agg #[a,b,c]) 2).run prog w=.ok c w:=by kernel_rfl
theorem bv:(Instr.field 24 (.agg #[a,b,c,d]) 0).run prog w=.ok a w:=by kernel_rfl
theorem bw:(Instr.field 24 (.agg #[a,b,c,d]) 1).run prog w=.ok b w:=by kernel_rfl
theorem bz:(Instr.field 24 (.agg #[a,b,c,d]) 2).run prog w=.ok c w:=by kernel_rfl
theorem bA:(Instr.field 24 (.agg #[a,b,c,d]) 3).run prog w=.ok d w:=by kernel_rfl
end
attribute [local go_sem] aV aW aX bv bw bz bA
def Dy(p:Int):Ending:=.panicked [{ v:=.iface 73 (.agg #[p,.int .i64 5]),recovered:=false }]
theorem IJ(E:cy)(s:St)(w:World)(h:aU E w s):Calls prog 60 #[E.R] w fun e w'=>e=Dy (aM E.c s)/\Below w w w':=by have D:=hid h;clear h;(go_enter func60,ntmps60);go_wp2_with fail;refine(b8 E s w D.out).mono ?_;rintro e w'⟨rfl,hb⟩;unfold iI;have I:=hid hb;clear hb;go_wp2_with fail;exact⟨rfl,rfl,I.out⟩
theorem bU(E:cy)(s:St)(x:ByteArray)(w:World)(h:aU E w s):Calls prog 42 #[E.R,x] w fun e w'=>e=.returned (.bool (aS E.c s x))/\Below w w w':=by have J:=hid h;(have D:aS E.c s x=(((ay E.c s.at_).kind==2||(ay E.c s.at_).kind==6)&&((ay E.c s.at_).text.toList==x.toList)):=by unfold aS Te;rw[cu]);rw[D];have I:=hid (b8 E s w h);clear D h J;generalize ay E.c s.at_=t at *;obtain⟨tk,tt,tp⟩:=t;unfold iI at I;simp only at *;cases U:(tk==2)<;>cases O:(tk==6)<;>cases N:(tt.toList==x.toList);all_goals(go_enter func42,ntmps42);go_wp2_with fail;refine I.out.mono ?_;rintro e w'⟨rfl,hb⟩;have M:=hid hb;clear hb;go_wp2_with fail;go_ret;have hb:=M.out;exact⟨rfl,(((hb.alloc hb.size _)))⟩
structure cN(E:cy)(s:St)(w w':World):Prop where
 rd:aU E w' s
 bel:Below w w w'
theorem cN.refl{E:cy}{s:St}{w:World}(h:aU E w s):cN E s w w:=⟨h,gG _ _⟩
theorem cN.step{E:cy}{s:St}{w w1 w2:World}(h:cN E s w w1)(hb:Below w1 w1 w2):cN E s w w2:=⟨h.rd.below hb,aD h.bel hb⟩
theorem cN.alloc{E:cy}{s:St}{w w1:World}(h:cN E s w w1)(o:Obj):cN E s w (w1.alloc o):=h.step ((gG _ _).alloc (gA _) o)
theorem cN.drew{E:cy}{s:St}{w w1:World}(h:cN E s w w1):cN E s w w1.drew:=h.step (gG _ _).drew
structure aw(E:cy)(s:St)(w w':World):Prop where
 rd:aU E w' s
 gr:w.grownBy w' (some E.R)
theorem cN.moved{E:cy}{s:St}{w w':World}(h:cN E s w w'):aw E s w w':=⟨h.rd,de _ h.bel⟩
theorem aw.refl{E:cy}{s:St}{w:World}(h:aU E w s):aw E s w w:=⟨h,World.grownBy.refl w _⟩
theorem aw.setAt{E:cy}{s:St}{w w':World}(h:aw E s w w')(n:Nat)(D:n<=E.c.toks.length):aw E { s with at_:=n } w (w'.setCell ⟨E.R,1,none⟩ (.int .i64 (n:Int))):=
 ⟨h.rd.setAt n D,h.gr.trans (iu _ _ _ _)⟩
theorem aw.setHead{E:cy}{s:St}{w w':World}(h:aw E s w w')(b:Bool):aw E { s with head:=b } w (w'.setCell ⟨E.R,3,none⟩ (.bool b)):=
 ⟨h.rd.setHead b,h.gr.trans (iu _ _ _ _)⟩
theorem aw.setPart{E:cy}{s:St}{w w':World}(h:aw E s w w')(n:Int):aw E { s with part:=n } w (w'.setCell ⟨E.R,4,none⟩ (.int .i64 n)):=
 ⟨h.rd.setPart n,h.gr.trans (iu _ _ _ _)⟩
theorem aw.trans{E:cy}{s s':St}{w w1 w2:World}(h:aw E s w w1)(h':aw E s' w1 w2):aw E s' w w2:=⟨h'.rd,h.gr.trans h'.gr⟩
theorem aw.step{E:cy}{s:St}{w w1 w2:World}(h:aw E s w w1)(hb:Below w1 w1 w2):aw E s w w2:=h.trans ⟨h.rd.below hb,de _ hb⟩
theorem aw.alloc{E:cy}{s:St}{w w1:World}(h:aw E s w w1)(o:Obj):aw E s w (w1.alloc o):=h.step ((gG _ _).alloc (gA _) o)
theorem aw.drew{E:cy}{s:St}{w w1:World}(h:aw E s w w1):aw E s w w1.drew:=h.step (gG _ _).drew
theorem aw.drewN{E:cy}{s:St}{w w1:World}(h:aw E s w w1)(n:Nat):aw E s w (w1.drewN n):=h.step (bg (gG _ _) n)
theorem cN.drewN{E:cy}{s:St}{w w1:World}(h:cN E s w w1)(n:Nat):cN E s w (w1.drewN n):=h.step (bg (gG _ _) n)
theorem aw.own{E:cy}{s:St}{w w1:World}(h:aw E s w w1){p:Addr}(D:w.heap.size<=p.block)(I:E.R<p.block)(u:Value):aw E s w (w1.setCell p u):=
 ⟨h.rd.far I u,by obtain⟨b,o,z⟩:=p;exact⟨h.gr.os,h.gr.tape,h.gr.output,by simpa using h.gr.size,fun k hk hne=>(jN w1 ⟨b,o,z⟩ u k (by simp at D |-;omega)).trans (h.gr.block k hk hne)⟩⟩
theorem ra{E:cy}{s:St}{w:World}(_h:aU E w s){x:ByteArray}(D:aS E.c s x=true):s.at_<E.c.toks.length:=by
 rcases kN s.at_ E.c.toks.length with h|h
 ·exact h
 ·unfold aS at D;rw[nh E.c s.at_ h]at D;simp[Te]at D
theorem bB(E:cy)(s:St)(x:ByteArray)(w:World)(h:aU E w s)(D:aS E.c s x=true):Calls prog 84 #[E.R,x] w fun e w'=>e=.returned (.bool true)/\aw E (adv s) w w':=by have N:=ra h D;have I:=h.most;have O:=hid D;have U:=hid (bU E s x w h);clear D;(go_enter func84,ntmps84);go_wp2_with fail;refine U.out.mono ?_;rw[O.out];rintro e w'⟨rfl,hb⟩;have M:=(cN.refl h).step hb;obtain⟨c0,c1,c2,c3,c4,J⟩:=M.rd.cells;have HF:=hid J;have f1:=J 1;clear hb J;go_wp2_with fail;go_ret;exact⟨rfl,M.moved.setAt (s.at_+1) (by omega)⟩
theorem cc(E:cy)(s:St)(x:ByteArray)(w:World)(h:aU E w s)(D:aS E.c s x=false):Calls prog 84 #[E.R,x] w fun e w'=>e=.returned (.bool false)/\cN E s w w':=by have J:=hid D;have M:=hid (bU E s x w h);clear D;(go_enter func84,ntmps84);go_wp2_with fail;refine M.out.mono ?_;rw[J.out];rintro e w'⟨rfl,hb⟩;have I:=(cN.refl h).step hb;clear hb;go_wp2_with fail;go_ret;exact⟨rfl,I⟩
theorem dU(E:cy)(s:St)(x:ByteArray)(w:World)(h:aU E w s)(D:aS E.c s x=true):Calls prog 63 #[E.R,x] w fun e w'=>e=.returned (.tuple #[])/\aw E (adv s) w w':=by have J:=hid (bB E s x w h D);clear D h;(go_enter func63,ntmps63);go_wp2_with fail;refine J.out.mono ?_;rintro e w'⟨rfl,I⟩;go_wp2_with fail;go_end0;exact⟨rfl,I⟩
theorem BE(E:cy)(s:St)(w:World)(h:aU E w s):Calls prog 85 #[E.R] w fun e w'=>e=.returned (.bool (eT E.c s))/\cN E s w w':=by have D:=cN.refl h;have hs:eT E.c s=(aS E.c s ⟨#[59]⟩||aS E.c s ⟨#[10]⟩):=rfl;have J:=hid (fun w'(h:aU E w' s)=>bU E s ⟨#[59]⟩ w' h);have I:=hid (fun w'(h:aU E w' s)=>bU E s ⟨#[10]⟩ w' h);rw[hs];clear hs;generalize aS E.c s ⟨#[59]⟩=a at *;generalize aS E.c s ⟨#[10]⟩=b at *;cases a<;>cases b;all_goals(go_enter func85,ntmps85);go_wp2_with fail;refine(J.out _ h).mono ?_;rintro e w'⟨rfl,hb⟩;replace D:=D.step hb;clear hb;go_wp2_with (go_at_call 42;refine(I.out _ D.rd).mono ?_;rintro e w'⟨rfl,hb⟩;replace D:=D.step hb;clear hb);go_ret;exact⟨rfl,D⟩
theorem ul(E:cy)(s:St)(w:World)(h:aU E w s):Calls prog 238 #[E.R] w fun e w'=>e=.returned (.bool (iv E.c s))/\cN E s w w':=by have D:=cN.refl h;have hs:iv E.c s=(aS E.c s ⟨#[44]⟩||aS E.c s ⟨#[93]⟩):=rfl;have J:=hid (fun w'(h:aU E w' s)=>bU E s ⟨#[44]⟩ w' h);have I:=hid (fun w'(h:aU E w' s)=>bU E s ⟨#[93]⟩ w' h);rw[hs];clear hs;generalize aS E.c s ⟨#[44]⟩=a at *;generalize aS E.c s ⟨#[93]⟩=b at *;cases a<;>cases b;all_goals(go_enter func238,ntmps238);go_wp2_with fail;refine(J.out _ h).mono ?_;rintro e w'⟨rfl,hb⟩;replace D:=D.step hb;clear hb;go_wp2_with (go_at_call 42;refine(I.out _ D.rd).mono ?_;rintro e w'⟨rfl,hb⟩;replace D:=D.step hb;clear hb);go_ret;exact⟨rfl,D⟩
theorem nO(E:cy)(s:St)(w:World)(h:aU E w s):Calls prog 66 #[E.R] w fun e w'=>e=.returned (.bool (eT E.c s))/\aw E (oA E.c s) w w':=by
 have O:=hid (BE E s w h);have hs:oA E.c s=if eT E.c s=true then adv s else s:=rfl;have M:eT E.c s=true->s.at_<E.c.toks.length:=fun hb=>by
  unfold eT at hb;rcases Bool.or_eq_true_iff.1 hb with J|J
  ·exact ra h J
  ·exact ra h J
 have I:=h.most;rw[hs];clear hs;generalize eT E.c s=a at *;cases a
 ·(go_enter func66,ntmps66);go_wp2_with fail;refine O.out.mono ?_;rintro e w'⟨rfl,D⟩;go_wp2_with fail;go_ret;exact⟨rfl,D.moved⟩
 ·have U:=M rfl;clear M;(go_enter func66,ntmps66);go_wp2_with fail;refine O.out.mono ?_;rintro e w'⟨rfl,D⟩;obtain⟨c0,c1,c2,c3,c4,N⟩:=D.rd.cells;have f1:=N 1;clear N;go_wp2_with fail;go_ret;exact⟨rfl,D.moved.setAt (s.at_+1) (by omega)⟩
theorem IK(E:cy)(s:St)(D:(ay E.c s.at_).kind=1):s.at_<E.c.toks.length:=by
 rcases kN s.at_ E.c.toks.length with h|h
 ·exact h
 ·rw[nh E.c s.at_ h]at D;simp at D
theorem ni(E:cy)(s:St)(w:World)(h:aU E w s)(N:(ay E.c s.at_).kind=1):Calls prog 65 #[E.R] w fun e w'=>e=.returned (.string (ay E.c s.at_).text)/\aw E (adv s) w w':=by have ga:=IK E s N;have J:=h.most;have U:=hid (b8 E s w h);generalize ay E.c s.at_=t at *;obtain⟨tk,tt,tp⟩:=t;unfold iI at U;simp only at *;subst N;(go_enter func65,ntmps65);go_wp2_with fail;refine U.out.mono ?_;rintro e w'⟨rfl,hb⟩;have I:=(cN.refl h).step hb;obtain⟨c0,c1,c2,c3,c4,O⟩:=I.rd.cells;have f1:=O 1;have D:=I.rd.lt;have M:=qi D;clear O;go_wp2_with fail;go_ret;exact⟨rfl,(I.moved.setAt (s.at_+1) (by omega)).alloc _⟩
theorem Ot(E:cy)(s:St)(w:World)(h:aU E w s)(M:¬ (ay E.c s.at_).kind=1):Calls prog 65 #[E.R] w fun e w'=>e=Dy (aM E.c s)/\Below w w w':=by have I:=hid (b8 E s w h);generalize ay E.c s.at_=t at *;obtain⟨tk,tt,tp⟩:=t;unfold iI at I;simp only at *;(go_enter func65,ntmps65);go_wp2_with fail;refine I.out.mono ?_;rintro e w'⟨rfl,hb⟩;have D:=((cN.refl h).step hb).alloc (.cells #[.int .i64 tk,.string tt,.int .i64 tp] 43);(have J:(tk != 1)=true:=by simpa using M);go_wp2_with fail;refine(IJ E s _ D.rd).mono ?_;rintro e w2⟨rfl,hb⟩;unfold Dy;exact⟨rfl,rfl,aD D.bel hb⟩
theorem F2(E:cy)(s:St)(w:World)(h:aU E w s):Calls prog 180 #[E.R] w fun e w'=>e=.returned (.bool (oJ E.c s))/\cN E s w w':=by
 have D:=cN.refl h;have hs:oJ E.c s=((ay E.c s.at_).kind==1||(aS E.c s ⟨#[91]⟩||(aS E.c s ⟨#[40]⟩||aS E.c s ⟨#[102,117,110,99]⟩))):=rfl;have I:=hid (b8 E s w h);have N:=hid (fun w'(h:aU E w' s)=>bU E s ⟨#[91]⟩ w' h);have M:=hid (fun w'(h:aU E w' s)=>bU E s ⟨#[40]⟩ w' h);have J:=hid (fun w'(h:aU E w' s)=>bU E s ⟨#[102,117,110,99]⟩ w' h);rw[hs];clear hs;generalize aS E.c s ⟨#[91]⟩=a at *;generalize aS E.c s ⟨#[40]⟩=b at *;generalize aS E.c s ⟨#[102,117,110,99]⟩=d at *;generalize ay E.c s.at_=t at *;obtain⟨tk,tt,tp⟩:=t;unfold iI at I;simp only at *;cases O:(tk==1)<;>cases a<;>cases b<;>cases d;all_goals
  (go_enter func180,ntmps180);go_wp2_with fail;refine I.out.mono ?_;rintro e w'⟨rfl,hb⟩;replace D:=D.step hb;clear hb;go_wp2_with (first
   |(go_at_call 42;with_reducible refine(N.out _ D.rd).mono ?_;rintro e w'⟨rfl,hb⟩;replace D:=D.step hb;clear hb)
   |(go_at_call 42;with_reducible refine(M.out _ D.rd).mono ?_;rintro e w'⟨rfl,hb⟩;replace D:=D.step hb;clear hb)
   |(go_at_call 42;with_reducible refine(J.out _ D.rd).mono ?_;rintro e w'⟨rfl,hb⟩;replace D:=D.step hb;clear hb))
  go_ret;exact⟨rfl,D⟩
theorem aQ(a k:Int)(t:ByteArray)(v:Value)(w:World)(D:∃A n c,v=.slice A n c):Calls prog 64 #[a,k,t,v] w fun e w'=>e=.returned (.agg #[k,t,v,a])/\Below w w w':=by obtain⟨A,n,c,rfl⟩:=D;(go_enter func64,ntmps64);go_wp2_with fail;refine jV (v:=.agg #[k,t,.slice A n c,a]) (by simp[results,results64,go_sem]) rfl ⟨rfl,?_⟩;exact bel
def pO(E:cy)(w:World)(r:cC Nd)(e:Ending)(w':World):Prop:=
 match r with
 | .ok n s=>(∃v,e=.returned v/\af (fun b=>w.heap.size<=b) w' v n)/\aw E s w w'
 | .out=>False
def cS(X:Nat->Prop)(w:World)(v:Value)(l:List Nd):Prop:=
 ∃A cap xs,v=.slice A l.length cap/\l.length<=cap/\eW X w 4 A l.length xs/\ag X w l xs
def IL(E:cy)(w:World)(r:cC (List Nd))(e:Ending)(w':World):Prop:=
 match r with
 | .ok l s=>(∃v,e=.returned v/\cS (fun b=>w.heap.size<=b) w' v l)/\aw E s w w'
 | .out=>False
def fZ(E:cy)(k:FuncId)(args:Array Value)(m:R Nd)(w0:World):Prop:=
 ∀(w:World)(s:St),w0.grownBy w (some E.R)->aU E w s->m E.c s≠.out->Calls prog k args w (pO E w (m E.c s))
theorem fZ.grown{E:cy}{k:FuncId}{args:Array Value}{m:R Nd}{w0 w1:World}(h:fZ E k args m w0)(D:w0.grownBy w1 (some E.R)):fZ E k args m w1:=
 fun w s hw hr hm=>h w s (D.trans hw) hr hm
theorem oK:(prog.info? 24).map (fun i=>(i.zero,i.size,i.bytes))=some (some (.agg #[.int .i64 0,.string ⟨#[]⟩,.slice none 0 0,.int .i64 0]),4,56):=by kernel_rfl
structure nj(B:Nat)(w:World)(v:Value)(l:List Nd):Prop where
 out:∃xs,w.ownsRow B 24 4 v l.length xs/\ag (fun b=>B<=b/\some b≠v.ownBlock) w l xs
theorem nj.nil(B:Nat)(w:World):nj B w (.slice none 0 0) []:=⟨[],vc _ _ _ _,ag.nil⟩
theorem nj.keep{B:Nat}{w w':World}{v:Value}{l:List Nd}(h:nj B w v l)(J:∀b,B<=b->b<w.heap.size->w'.heap[b]? = w.heap[b]?):nj B w' v l:=by
 obtain⟨xs,N,O⟩:=h.out;refine⟨xs,⟨N.1,?_⟩,O.keep fun b hb D=>J b hb.1 D⟩;rcases N.2 with U|⟨g,cap,cur,e,M,I,r⟩
 ·exact .inl U
 ·refine .inr ⟨g,cap,cur,e,M,?_,r⟩;have D:g<w.heap.size:=by
   rcases kN g w.heap.size with D|hge
   ·exact D
   ·rw[kO hge]at I;cases I
  exact(J g M D).trans I
theorem nj.grown{B R:Nat}{w w':World}{v:Value}{l:List Nd}(h:nj B w v l)(D:w.grownBy w' (some R))(I:R<B):nj B w' v l:=
 h.keep fun b hb hlt=>D.block b hlt (fun e=>by injection e;omega)
theorem nj.values{B:Nat}{w:World}{v:Value}{l:List Nd}(h:nj B w v l):cS (fun b=>B<=b) w v l:=by
 obtain⟨xs,D,J⟩:=h.out;rcases D.2 with⟨rfl,h0⟩|⟨g,cap,cur,rfl,hg,U,I,_,N,M⟩
 ·exact⟨none,0,xs,by rw[h0],by omega,⟨D.1,fun h=>by omega⟩,J.mono fun b hb _=>hb.1⟩
 ·refine⟨_,cap,xs,rfl,I,⟨D.1,fun _=>⟨g,0,rfl,hg,fun j u hu=>?_⟩⟩,J.mono fun b hb _=>hb.1⟩;(have O:j<l.length*4:=by have:=(List.getElem?_eq_some_iff.1 hu).1;rw[D.1]at this;exact this);rw[kS];unfold World.cell?;rw[U];simp only[qo,jC,kI];rw[<-M,vj O]at hu;rw[<-hu];simp
theorem nj.push{B S:Nat}{w1 w2:World}{u v':Value}{l:List Nd}{n:Nd}{o:Obj}{cs:List Value}{xs:List Value}
  (O:ag (fun b=>B<=b/\some b≠u.ownBlock) w1 l xs)
  (h:bo (fun b=>S<=b) w1 n cs)(hB:B<=S)(N:∀g,u.ownBlock=some g->g<S)
  (I:w2.ownsRow B 24 4 v' (l.length+1) (xs++cs))(U:(w1.alloc o).grownBy w2 u.ownBlock)(J:v'.ownBlock=u.ownBlock\/v'.ownBlock=some (w1.alloc o).heap.size):nj B w2 v' (l++[n]):=by
 refine⟨xs++cs,by rw[gL];exact I,?_⟩;have h1:ag (fun b=>B<=b/\some b≠u.ownBlock/\b<w1.heap.size) w1 (l++[n]) (xs++cs):=
  (O.mono fun b hb D=>⟨hb.1,hb.2,D⟩).app (ag.one (h.mono fun b hb D=>⟨kC hB hb,fun e=>by have:=N b e.symm;omega,D⟩))
 have h2:=h1.keep (w':=w2) fun b hb D=>(U.block b (by rw[jL];omega) hb.2.1).trans (jF w1 o b D);refine h2.mono fun b hb _=>⟨hb.1,?_⟩;rcases J with e|e
 ·rw[e];exact hb.2.1
 ·rw[e,jL];intro M;injection M with M;omega
theorem rI(n:Nd)(A:Option Addr)(cap:Nat):∀u∈[Value.int .i64 n.kind,.string n.text,.slice A n.kids.length cap,.int .i64 n.pos],u.oneCell'=true:=by intro u D;simp only[qS,qJ,vE]at D;rcases D with rfl|rfl|rfl|rfl<;>rfl
theorem nj.lt{B:Nat}{w:World}{v:Value}{l:List Nd}(h:nj B w v l):∀g,v.ownBlock=some g->B<=g/\g<w.heap.size:=by obtain⟨xs,D,_⟩:=h.out;exact fun g hg=>D.lt g hg
structure IM(E:cy)(s:St)(B:Nat)(w w1 w2:World)(v':Value)(l:List Nd):Prop where
 own:nj B w2 v' l
 mov:aw E s w w2
 old:∀b,b<w1.heap.size->(B<=b->False)->w2.heap[b]? = w1.heap[b]?
 le:w1.heap.size<=w2.heap.size
theorem Ou{o:Oper}{a:Act}{K:Act->World->Prop}{Q:Exit->Act->World->Prop}(s x:Operand)
  (ho:o.op=.call { callee:=.builtin .append,args:=#[s,x],argTypes:=#[22,22] })
  (E:cy)(st:St)(B S:Nat)(w w1:World)(u:Value)(l:List Nd)(n:Nd)(A:Option Addr)(cap:Nat)(hs:a.eval s=u)(hx:a.eval x=.slice (some ⟨w1,0,none⟩) 1 1)
  (hO:nj B w1 u l)(D:aw E st w w1)(ge:w.heap.size<=B)(hR:E.R<B)(hB:B<=S)(hS:S<=w1.heap.size)(hu:∀g,u.ownBlock=some g->g<S)(hl:l.length<=1000000)
  (hV:bo (fun b=>S<=b) w1 n [.int .i64 n.kind,.string n.text,.slice A n.kids.length cap,.int .i64 n.pos])
  (h:∀g c w2,IM E st B w w1 w2 (.slice (some ⟨g,0,none⟩) (l.length+1) c) (l++[n])->K (a.put o.dst (.slice (some ⟨g,0,none⟩) (l.length+1) c)) w2):
  o.wp prog a (w1.alloc (.cells (nv n A cap) 24)) K Q:=by
 obtain⟨i0,hi,U,O,N⟩:=qO oK;obtain⟨xs,J,gb⟩:=hO.out;refine vx _ s x 22 ho B 24 i0 _ 4 56 underlying22 hi U O N rfl (by omega) u l.length xs hs (J.alloc _) ⟨w1,0,none⟩ 1 1 [.int .i64 n.kind,.string n.text,.slice A n.kids.length cap,.int .i64 n.pos] hx rfl
  (qz (cs:=(nv n A cap)) (qu _ _)) (rI n A cap) (by omega) (by unfold maxLen;omega) (by omega) (by rw[jL];omega) _ rfl ?_
 intro g c w2 hown1 I gd _;have ga:∀g,u.ownBlock=some g->B<=g:=fun g I=>(hO.lt g I).1;have hold:∀b,b<w1.heap.size->(B<=b->False)->w2.heap[b]? = w1.heap[b]? :=fun b hb hBb=>(I.block b (by rw[jL];omega) (fun e=>hBb (ga b e.symm))).trans (jF w1 _ b hb);have M:w1.heap.size<=w2.heap.size:=kC (by rw[jL];omega) I.size;refine h g c w2 ⟨nj.push gb hV hB hu hown1 I ?_,⟨D.rd.keep fun b hb=>?_,?_⟩,hold,M⟩
 ·rcases gd with e|e
  ·exact .inl (by rw[e];rfl)
  ·exact .inr (by rw[e];rfl)
 ·exact hold b (Nat.lt_of_le_of_lt hb D.rd.lt) (fun h2=>by omega)
 ·refine⟨I.os.trans D.gr.os,I.tape.trans D.gr.tape,I.output.trans D.gr.output,kC D.gr.size M,fun k hk hne=>?_⟩;exact(hold k (kH hk D.gr.size) (fun h2=>by omega)).trans (D.gr.block k hk hne)
theorem BF{ops:Array Oper}{rest:List Oper}{o:Oper}{a:Act}{Q:Exit->Act->World->Prop}(I:o.guard=none)(s x:Operand)
  (N:o.op=.call { callee:=.builtin .append,args:=#[s,x],argTypes:=#[22,22] })
  (E:cy)(st:St)(B S:Nat)(w w1:World)(u:Value)(l:List Nd)(n:Nd)(A:Option Addr)(cap:Nat)(hs:a.eval s=u)(J:a.eval x=.slice (some ⟨w1,0,none⟩) 1 1)
  (hO:nj B w1 u l)(O:aw E st w w1)(D:w.heap.size<=B)(hR:E.R<B)(hB:B<=S)(hS:S<=w1.heap.size)(M:∀g,u.ownBlock=some g->g<S)(U:l.length<=1000000)
  (hV:bo (fun b=>S<=b) w1 n [.int .i64 n.kind,.string n.text,.slice A n.kids.length cap,.int .i64 n.pos])
  (h:∀g c w2,IM E st B w w1 w2 (.slice (some ⟨g,0,none⟩) (l.length+1) c) (l++[n])->wpList prog ops Q rest (a.put o.dst (.slice (some ⟨g,0,none⟩) (l.length+1) c)) w2):
  wpList prog ops Q (o::rest) a (w1.alloc (.cells (nv n A cap) 24)):=
 vy I fun _ hK=>Ou s x N E st B S w w1 u l n A cap hs J hO O D hR hB hS M U hV fun g c w2 hp=>hK _ _ (h g c w2 hp)
theorem pq(E:cy)(k:FuncId)(first cap:Array Value)(part:R Nd)(en:ByteArray)(g:Nat)(s:St)(w:World)(h:aU E w s)
  (hk:∀a w,(callFunc k a).run prog w=.ok (.enter k a) w)(hp:fZ E k (first++cap) part w)(gl:a6 part en g [] E.c s≠.out)(gt:g<=1000000):
  Calls prog 127 #[E.R,en,.func (.func k) first cap] w (IL E w (a6 part en g [] E.c s)):=by
 generalize hres:a6 part en g [] E.c s=res at *;have ga:=hid hres;have HP:=hid hp;have gi:=hid gl;obtain⟨i0,hi,gz,gy,gx⟩:=qO oK;clear hres hp gl;(go_enter func127,ntmps127);go_wp2_with fail;go_loopg [7] g (fun g u7 wr=>∃(acc:List Nd)(s':St),nj w.heap.size wr u7 acc/\acc.length+g<=1000000/\a6 part en g acc E.c s'=res/\aw E s' w wr)
 case atStart=>exact⟨[],s,nj.nil _ _,by simpa using gt,ga.out,aw.refl h⟩
 case round=>
  obtain⟨acc,s1,U,gw,hr,hm⟩:=hrel;have HR:=hid hr;have HO:=hid U;clear hr U ga;cases gk with
  |zero=>exact absurd HR.out.symm (by rw[a6];exact gi.out)
  | succ g1=>
   cases hA:aS E.c s1 en with
   |true=>have HF:=hid (show res=.ok acc (adv s1)by rw[<-HR.out,a6];simp only[hA,kW]);go_wp2_with fail;refine(bB E s1 en _ hm.rd hA).mono ?_;rintro e w1⟨rfl,D⟩;clear hA;go_wp2_with fail;go_ret;rw[HF.out];exact⟨⟨_,rfl,(HO.out.grown D.gr (h.lt)).values⟩,hm.trans D⟩
   | false=>
    have HE:=hid (show(part E.c s1).bind (fun n s2=>if aS E.c s2 en then .ok (acc++[n]) (adv s2)else(ci ⟨#[44]⟩ E.c s2).bind fun _ s3=>a6 part en g1 (acc++[n]) E.c s3)=res by rw[<-HR.out,a6];simp only[hA,jC,kI]);clear HR;go_wp2_with fail;refine(cc E s1 en _ hm.rd hA).mono ?_;rintro e w1⟨rfl,gd⟩;clear hA;have D:=hm.trans gd.moved;have gh:=hid (HO.out.grown gd.moved.gr h.lt);clear HO hm gd;go_wp2_with fail;cases hP:part E.c s1 with
    |out=>exact absurd HE.out.symm (by rw[hP];exact gi.out)
    | ok n s2=>
     have O:=hid (show(if aS E.c s2 en then .ok (acc++[n]) (adv s2)else(ci ⟨#[44]⟩ E.c s2).bind fun _ s3=>a6 part en g1 (acc++[n]) E.c s3)=res by rw[<-HE.out,hP];rfl);refine(HP.out w1 s1 D.gr D.rd (by rw[hP];exact nofun)).mono ?_;rw[hP];rintro e w2⟨⟨v,rfl,hv⟩,N⟩;obtain⟨A,cp,rfl,hC⟩:=hv.toC;have gs:=D.gr.size;have gn:=N.gr.size;have I:=h.lt;have HU:Hid (∀g,u7.ownBlock=some g->g<w1.heap.size):=hid (fun g hg=>(gh.out.lt g hg).2);have gp:=hid (gh.out.grown N.gr I);have HC:=hid hC;have gq:=hid (D.trans N);(have ge:acc.length<=1000000:=by omega);clear hP HE HP hv hC D N gh;go_wp2_with (at_builtin;refine BF rfl (.tmp 12) (.tmp 15) rfl E s2 w.heap.size w1.heap.size w w2 u7 acc n A cp rfl rfl gp.out gq.out (gA _) I gs gn HU.out ge HC.out ?_;intro g3 c3 w3 hp3);have M:=hp3.mov;have gg:=hid hp3.own;clear hp3 gp gq HC HU;cases hB:aS E.c s2 en with
     |true=>have HF:=hid (show res=.ok (acc++[n]) (adv s2)by rw[<-O.out];simp only[hB,kW]);refine(bB E s2 en _ M.rd hB).mono ?_;rintro e w4⟨rfl,J⟩;clear hB O;go_wp2_with fail;go_ret;rw[HF.out];exact⟨⟨_,rfl,(gg.out.grown J.gr I).values⟩,M.trans J⟩
     | false=>
      have gj:=hid (show(ci ⟨#[44]⟩ E.c s2).bind (fun _ s3=>a6 part en g1 (acc++[n]) E.c s3)=res by rw[<-O.out];simp only[hB,jC,kI]);refine(cc E s2 en _ M.rd hB).mono ?_;rintro e w4⟨rfl,gb⟩;have J:=M.trans gb.moved;have gu:=hid (gg.out.grown gb.moved.gr I);clear hB O gg gb M;go_wp2_with fail;cases hD:aS E.c s2 ⟨#[44]⟩with
      |true=>
       have gv:Hid (a6 part en g1 (acc++[n]) E.c (adv s2)=res):=hid (by rw[<-gj.out,ci];simp only[hD,kW,cC.bind_ok]);refine(dU E s2 ⟨#[44]⟩ _ J.rd hD).mono ?_;rintro e w5⟨rfl,gm⟩;clear hD gj;go_wp2_with fail;go_roundg g1
       case measure=>omega
       case rel=>exact⟨acc++[n],adv s2,gu.out.grown gm.gr I,by rw[gL];simp;omega,gv.out,J.trans gm⟩
      |false=>exact absurd (show res=.out by rw[<-gj.out,ci];simp only[hD,jC,kI];rfl) gi.out
structure ar(X:Nat->Prop)(w w':World):Prop where
 size:w.heap.size<=w'.heap.size
 block:∀b,X b->b<w.heap.size->w'.heap[b]? = w.heap[b]?
section
variable {X:Nat->Prop} {w w' w'':World}
theorem ar.refl(X:Nat->Prop)(w:World):ar X w w:=⟨gA _,fun _ _ _=>rfl⟩
theorem ar.trans(h:ar X w w')(h':ar X w' w''):ar X w w'':=
 ⟨kC h.size h'.size,fun b hb hlt=>(h'.block b hb (kH hlt h.size)).trans (h.block b hb hlt)⟩
theorem ar.alloc(h:ar X w w')(o:Obj):ar X w (w'.alloc o):=
 h.trans ⟨by rw[jL];omega,fun b _ hlt=>jF w' o b hlt⟩
theorem ar.drew(h:ar X w w'):ar X w w'.drew:=h.trans ⟨gA _,fun _ _ _=>rfl⟩
theorem ar.drewN(h:ar X w w')(n:Nat):ar X w (w'.drewN n):=h.trans ⟨(bg (gG 0 _) n).size,fun b _ hlt=>(bg (gG w'.heap.size w') n).block b hlt⟩
theorem ar.setCell(h:ar X w w'){p:Addr}(D:X p.block->False)(u:Value):ar X w (w'.setCell p u):=
 h.trans ⟨by simp[World.setCell],fun b hb _=>jN w' p u b (fun e=>D (e▸hb))⟩
theorem ar.of_grown{r:Option Nat}(D:w.grownBy w' r)(I:∀g,r=some g->X g->False:=by intro g e hX;injection e with e;(try dsimp only at hX);omega):ar X w w':=
 ⟨D.size,fun b hb hlt=>D.block b hlt (fun e=>I b e.symm hb)⟩
theorem ar.of_below{B:Nat}(D:Below B w w')(I:∀b,X b->b<w.heap.size->b<B):ar X w w':=
 ⟨D.size,fun b hb hlt=>D.block b (I b hb hlt)⟩
theorem af.kept{v:Value}{n:Nd}(h:af X w v n)(D:ar X w w'):af X w' v n:=h.keep D.block
theorem cS.kept{v:Value}{l:List Nd}(h:cS X w v l)(D:ar X w w'):cS X w' v l:=by obtain⟨A,cap,xs,e,M,J,I⟩:=h;exact⟨A,cap,xs,e,M,J.keep D.block,I.keep D.block⟩
theorem cS.mono{Y:Nat->Prop}{v:Value}{l:List Nd}(h:cS X w v l)(D:∀b,X b->b<w.heap.size->Y b):cS Y w v l:=by obtain⟨A,cap,xs,e,M,J,I⟩:=h;exact⟨A,cap,xs,e,M,J.mono D (by omega),I.mono D⟩
theorem ab{g:Nat}{t:TypeId}{a b c d:Value}(h:an w g t #[a,b,c,d]):w.cell? ⟨g,0,none⟩=some a/\w.cell? ⟨g,1,none⟩=some b/\w.cell? ⟨g,2,none⟩=some c/\w.cell? ⟨g,3,none⟩=some d /\
  w.frozen? ⟨g,0,none⟩=false/\w.frozen? ⟨g,1,none⟩=false/\w.frozen? ⟨g,2,none⟩=false/\w.frozen? ⟨g,3,none⟩=false:=by have c0:=h.cell 0;have c1:=h.cell 1;have c2:=h.cell 2;have c3:=h.cell 3;simp at c0 c1 c2 c3;exact⟨c0,c1,c2,c3,h.frozen 0,h.frozen 1,h.frozen 2,h.frozen 3⟩
end
def bP:Array Value:=#[.int .i64 0,.string ⟨#[]⟩,.slice none 0 0,.int .i64 0]
theorem eX{fn:Func}{q:Tmp}(I:fn.results = #[.cell q 24])(tmps:Array Value){w:World}{g:Nat}{a b c d:Value}(J:tmps.getD q undef=.pointer (some ⟨g,0,none⟩))(hb:an w g 24 #[a,b,c,d]):
  (results fn tmps).run prog w=.ok (.agg #[a,b,c,d]) w:=by obtain⟨U,O,N,M,_,_,_,_⟩:=ab hb;unfold results;rw[I];(have D:tmps[q]?.getD undef=.pointer (some ⟨g,0,none⟩):=by simpa using J);simp[D,go_sem,U,O,N,M]
theorem BG(E:cy)(k:FuncId)(first cap:Array Value)(part:R Nd)(s:St)(w:World)(h:aU E w s)
  (hk:∀a w,(callFunc k a).run prog w=.ok (.enter k a) w)(hp:fZ E k (first++cap) part w)(N:ct part E.c s≠.out):
  Calls prog 133 #[E.R,.func (.func k) first cap] w (pO E w (ct part E.c s)):=by
 generalize hres:ct part E.c s=res at *;have I:=hid hres;have HP:=hid hp;have gg:=hid N;obtain⟨c0,c1,c2,c3,c4,f0⟩:=h.cells;have f3:=f0 3;have O:=h.lt;have gh:=qi O;clear hres hp N f0;(go_enter func133,ntmps133);go_wp2_with fail;have J:aw E { s with head:=false } w ((w.setCell ⟨E.R,3,none⟩ (.bool false)).alloc (.cells bP 24)):=((aw.refl h).setHead false).alloc _;(have ge:an ((w.setCell ⟨E.R,3,none⟩ (.bool false)).alloc (.cells bP 24)) w.heap.size 24 bP:=by have:=an.new (w.setCell ⟨E.R,3,none⟩ (.bool false)) 24 bP;simpa[World.setCell]using this);cases U:part E.c { s with head:=false }with
 |out=>exact absurd I.out.symm (by rw[ct,U];exact gg.out)
 |ok n s1=>
  have HF:=hid (show res=.ok n { s1 with head:=s.head }by rw[<-I.out,ct,U];rfl);refine(HP.out _ _ J.gr J.rd (by rw[U];exact nofun)).mono ?_;rw[U];rintro e w2⟨⟨v,rfl,hv⟩,D⟩;obtain⟨A,cp,rfl,hC⟩:=hv.toC;have M:=ge.grown D.gr;obtain⟨d0,d1,d2,d3,e0,e1,e2,e3⟩:=ab M;obtain⟨x0,x1,x2,x3,x4,y0⟩:=D.rd.cells;have y3:=y0 3;have gj:=D.rd.lt;have gi:=M.lt;have ga:=D.gr.size;have gb:=J.trans D;simp only[jL]at ga;clear U I HP y0;go_wp2_with fail;have gd:=((((M.far (p:=⟨E.R,3,none⟩) (by show w.heap.size≠E.R;omega) (.bool s.head)).set_ 0 (.int .i64 n.kind)).set_ 1 (.string n.text)).set_ 2 (.slice A n.kids.length cp)).set_ 3 (.int .i64 n.pos) |>.alloc (.cells (nv n A cp) 24);refine jV (eX rfl _ (by rfl) (by simpa[bP]using gd)) rfl ?_;rw[HF.out];refine⟨⟨_,rfl,(hv.kept ?_).mono ?_⟩,?_⟩
  ·(repeat'(first|with_reducible exact ar.refl _ _|with_reducible refine ar.alloc ?_ _|with_reducible refine ar.setCell ?_ ?_ _|with_reducible refine ar.drew ?_ |with_reducible refine ar.drewN ?_ _|(intro hX;simp at hX;omega)))
  ·intro b hb _;simp at hb;omega
  ·have gk:=gb.setHead s.head;(repeat'(first|with_reducible assumption|with_reducible refine aw.alloc ?_ _|with_reducible refine aw.own ?_ ?_ ?_ _|with_reducible refine aw.drew ?_ |with_reducible refine aw.drewN ?_ _|(simp<;>omega)|omega))
theorem mg(E:cy)(k:FuncId)(first cap:Array Value)(part:R Nd)(s:St)(w:World)(h:aU E w s)
  (hk:∀a w,(callFunc k a).run prog w=.ok (.enter k a) w)(hp:fZ E k (first++cap) part w)(N:db part E.c s≠.out):
  Calls prog 218 #[E.R,.func (.func k) first cap] w (pO E w (db part E.c s)):=by
 generalize hres:db part E.c s=res at *;have I:=hid hres;have HP:=hid hp;have gg:=hid N;obtain⟨c0,c1,c2,c3,c4,f0⟩:=h.cells;have f3:=f0 3;have O:=h.lt;have gh:=qi O;clear hres hp N f0;(go_enter func218,ntmps218);go_wp2_with fail;have J:aw E { s with head:=true } w ((w.setCell ⟨E.R,3,none⟩ (.bool true)).alloc (.cells bP 24)):=((aw.refl h).setHead true).alloc _;(have ge:an ((w.setCell ⟨E.R,3,none⟩ (.bool true)).alloc (.cells bP 24)) w.heap.size 24 bP:=by have:=an.new (w.setCell ⟨E.R,3,none⟩ (.bool true)) 24 bP;simpa[World.setCell]using this);cases U:part E.c { s with head:=true }with
 |out=>exact absurd I.out.symm (by rw[db,U];exact gg.out)
 |ok n s1=>
  have HF:=hid (show res=.ok n { s1 with head:=s.head }by rw[<-I.out,db,U];rfl);refine(HP.out _ _ J.gr J.rd (by rw[U];exact nofun)).mono ?_;rw[U];rintro e w2⟨⟨v,rfl,hv⟩,D⟩;obtain⟨A,cp,rfl,hC⟩:=hv.toC;have M:=ge.grown D.gr;obtain⟨d0,d1,d2,d3,e0,e1,e2,e3⟩:=ab M;obtain⟨x0,x1,x2,x3,x4,y0⟩:=D.rd.cells;have y3:=y0 3;have gj:=D.rd.lt;have gi:=M.lt;have ga:=D.gr.size;have gb:=J.trans D;simp only[jL]at ga;clear U I HP y0;go_wp2_with fail;have gd:=((((M.far (p:=⟨E.R,3,none⟩) (by show w.heap.size≠E.R;omega) (.bool s.head)).set_ 0 (.int .i64 n.kind)).set_ 1 (.string n.text)).set_ 2 (.slice A n.kids.length cp)).set_ 3 (.int .i64 n.pos) |>.alloc (.cells (nv n A cp) 24);refine jV (eX rfl _ (by rfl) (by simpa[bP]using gd)) rfl ?_;rw[HF.out];refine⟨⟨_,rfl,(hv.kept ?_).mono ?_⟩,?_⟩
  ·(repeat'(first|with_reducible exact ar.refl _ _|with_reducible refine ar.alloc ?_ _|with_reducible refine ar.setCell ?_ ?_ _|with_reducible refine ar.drew ?_ |with_reducible refine ar.drewN ?_ _|(intro hX;simp at hX;omega)))
  ·intro b hb _;simp at hb;omega
  ·have gk:=gb.setHead s.head;(repeat'(first|with_reducible assumption|with_reducible refine aw.alloc ?_ _|with_reducible refine aw.own ?_ ?_ ?_ _|with_reducible refine aw.drew ?_ |with_reducible refine aw.drewN ?_ _|(simp<;>omega)|omega))
def sH(E:cy)(k:FuncId)(args:Array Value)(m:R (List Nd))(w0:World):Prop:=
 ∀(w:World)(s:St),w0.grownBy w (some E.R)->aU E w s->m E.c s≠.out->Calls prog k args w (IL E w (m E.c s))
theorem pu(E:cy)(k:FuncId)(first cap:Array Value)(part:R (List Nd))(s:St)(w:World)(h:aU E w s)
  (hk:∀a w,(callFunc k a).run prog w=.ok (.enter k a) w)(hp:sH E k (first++cap) part w)(J:ct part E.c s≠.out):
  Calls prog 185 #[E.R,.func (.func k) first cap] w (IL E w (ct part E.c s)):=by
 generalize hres:ct part E.c s=res at *;have D:=hid hres;have HP:=hid hp;have ga:=hid J;obtain⟨c0,c1,c2,c3,c4,f0⟩:=h.cells;have f3:=f0 3;clear hres hp J f0;(go_enter func185,ntmps185);go_wp2_with fail;have I:=(aw.refl h).setHead false;cases N:part E.c { s with head:=false }with
 |out=>exact absurd D.out.symm (by rw[ct,N];exact ga.out)
 |ok n s1=>
  have HF:=hid (show res=.ok n { s1 with head:=s.head }by rw[<-D.out,ct,N];rfl);refine(HP.out _ _ I.gr I.rd (by rw[N];exact nofun)).mono ?_;rw[N];rintro e w2⟨⟨v,rfl,hv⟩,M⟩;obtain⟨x0,x1,x2,x3,x4,y0⟩:=M.rd.cells;have y3:=y0 3;have U:=I.trans M;have gb:=h.lt;have O:=I.gr.size;clear N D HP y0;go_wp2_with fail;go_ret;rw[HF.out];refine⟨⟨_,rfl,(hv.kept ?_).mono ?_⟩,?_⟩
  ·(repeat'(first|with_reducible exact ar.refl _ _|with_reducible refine ar.alloc ?_ _|with_reducible refine ar.setCell ?_ ?_ _|with_reducible refine ar.drew ?_ |with_reducible refine ar.drewN ?_ _|(intro hX;simp at hX;omega)))
  ·intro b hb _;exact kC O hb
  ·exact U.setHead s.head
end
end Go.Proofs.YtiebcdeafofgdaaGreatDoor
