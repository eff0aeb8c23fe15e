/-
  Parts of the proof: Rsmall Rrow Rfree. By an AI agent.
-/
import Derived.Test.YteialcjaiocjdaaGreatDoorJ02
import Derived.Deep.RegionHeld2
open Go.Proofs.Tryz
set_option maxRecDepth 100000
set_option maxHeartbeats 8000000
namespace Go.Proofs.YteialcjaiocjdaaGreatDoor
section
open Go.RowKit Go.Lib Go.Proofs
attribute [local go_sem ↓] Go.wp_at_zero Go.wp_at_succ
theorem gM:type_of% @List.length_append:=@List.length_append
theorem gW:type_of% @Bool.false_eq_true:=@Bool.false_eq_true
theorem jO:type_of% @Go.World.size_alloc:=@Go.World.size_alloc
theorem jW:type_of% @if_false:=@if_false
theorem jZ:type_of% @Nat.le_trans:=@Nat.le_trans
theorem kG:type_of% @if_true:=@if_true
theorem kK:type_of% @Nat.lt_of_lt_of_le:=@Nat.lt_of_lt_of_le
theorem kR:type_of% @Nat.zero_add:=@Nat.zero_add
theorem kT:type_of% @Bool.eq_iff_iff:=@Bool.eq_iff_iff
theorem qj:type_of% @Option.isSome_none:=@Option.isSome_none
theorem qw:type_of% @Go.ByteArray.toList_eq:=@Go.ByteArray.toList_eq
theorem qE:type_of% @Go.info_parts:=@Go.info_parts
theorem qS:type_of% @Go.World.ownsRow_nil:=@Go.World.ownsRow_nil
theorem qY:type_of% @List.getElem?_take_of_lt:=@List.getElem?_take_of_lt
theorem vh:type_of% @Go.wp_append_lies:=@Go.wp_append_lies
theorem vm:type_of% @List.not_mem_nil:=@List.not_mem_nil
theorem vr:type_of% @List.mem_cons:=@List.mem_cons
theorem toList_inj{a b:ByteArray}:a.toList=b.toList↔a=b:=by
 constructor
 ·intro h;rw[qw,qw]at h;cases a;cases b;congr;exact Array.ext' h
 ·rintro rfl;rfl
theorem cz(a b:ByteArray):(a.toList==b.toList)=decide (a=b):=by rw[kT];simp only[kO,gD];exact toList_inj
theorem ao(f:ByteArray):f.toList.isEmpty=decide (f=⟨#[]⟩):=by have h:=cz f ⟨#[]⟩;rw[<-h];(have e:(⟨#[]⟩:BA).toList=[]:=by rw[qw]);rw[e];cases f.toList<;>rfl
section
variable (a b c d:Value) (w:World)
theorem aR:(Instr.field 63 (.agg #[a,b,c]) 0).run prog w=.ok a w:=by kernel_rfl
theorem aS:(Instr.field 63 (.agg #[a,b,c]) 1).run prog w=.ok b w:=by kernel_rfl
theorem aT:(Instr.field 63 (.agg #[a,b,c]) 2).run prog w=.ok c w:=by kernel_rfl
theorem bu:(Instr.field 24 (.agg #[a,b,c,d]) 0).run prog w=.ok a w:=by kernel_rfl
theorem bv:(Instr.field 24 (.agg #[a,b,c,d]) 1).run prog w=.ok b w:=by kernel_rfl
theorem bw:(Instr.field 24 (.agg #[a,b,c,d]) 2).run prog w=.ok c w:=by kernel_rfl
theorem bz:(Instr.field 24 (.agg #[a,b,c,d]) 3).run prog w=.ok d w:=by kernel_rfl
end
attribute [local go_sem] aR aS aT bu bv bw bz
def DR(p:Int):Ending:=.panicked [{ v:=.iface 60 (.agg #[p,.int .i64 5]),recovered:=false }]
theorem Lb(E:cw)(s:St)(w:World)(h:aU E w s):Calls prog 51 #[E.R] w fun e w'=>e=DR (aD E.c s)/\Below w w w':=by have D:=hid h;clear h;(go_enter func51,ntmps51);go_wp2_with fail;refine(bL E s w D.out).mono ?_;rintro e w'⟨rfl,hb⟩;unfold fY;have I:=hid hb;clear hb;go_wp2_with fail;exact⟨rfl,rfl,I.out⟩
theorem bY(E:cw)(s:St)(x:ByteArray)(w:World)(h:aU E w s):Calls prog 33 #[E.R,x] w fun e w'=>e=.returned (.bool (aP E.c s x))/\Below w w w':=by have J:=hid h;(have D:aP E.c s x=(((az E.c s.at_).kind==2||(az E.c s.at_).kind==6)&&((az E.c s.at_).text.toList==x.toList)):=by unfold aP TD;rw[cz]);rw[D];have I:=hid (bL E s w h);clear D h J;generalize az E.c s.at_=t at *;obtain⟨tk,tt,tp⟩:=t;unfold fY at I;simp only at *;cases U:(tk==2)<;>cases O:(tk==6)<;>cases N:(tt.toList==x.toList);all_goals(go_enter func33,ntmps33);go_wp2_with fail;refine I.out.mono ?_;rintro e w'⟨rfl,hb⟩;have M:=hid hb;clear hb;go_wp2_with fail;go_ret;have hb:=M.out;exact⟨rfl,(((hb.alloc hb.size _)))⟩
structure cJ(E:cw)(s:St)(w w':World):Prop where
 rd:aU E w' s
 bel:Below w w w'
theorem cJ.refl{E:cw}{s:St}{w:World}(h:aU E w s):cJ E s w w:=⟨h,gH _ _⟩
theorem cJ.step{E:cw}{s:St}{w w1 w2:World}(h:cJ E s w w1)(hb:Below w1 w1 w2):cJ E s w w2:=⟨h.rd.below hb,au h.bel hb⟩
theorem cJ.alloc{E:cw}{s:St}{w w1:World}(h:cJ E s w w1)(o:Obj):cJ E s w (w1.alloc o):=h.step ((gH _ _).alloc (gC _) o)
theorem cJ.drew{E:cw}{s:St}{w w1:World}(h:cJ E s w w1):cJ E s w w1.drew:=h.step (gH _ _).drew
structure aA(E:cw)(s:St)(w w':World):Prop where
 rd:aU E w' s
 gr:w.grownBy w' (some E.R)
theorem cJ.moved{E:cw}{s:St}{w w':World}(h:cJ E s w w'):aA E s w w':=⟨h.rd,di _ h.bel⟩
theorem aA.refl{E:cw}{s:St}{w:World}(h:aU E w s):aA E s w w:=⟨h,World.grownBy.refl w _⟩
theorem aA.setAt{E:cw}{s:St}{w w':World}(h:aA E s w w')(n:Nat)(D:n<=E.c.toks.length):aA E { s with at_:=n } w (w'.setCell ⟨E.R,1,none⟩ (.int .i64 (n:Int))):=
 ⟨h.rd.setAt n D,h.gr.trans (iQ _ _ _ _)⟩
theorem aA.setHead{E:cw}{s:St}{w w':World}(h:aA E s w w')(b:Bool):aA E { s with head:=b } w (w'.setCell ⟨E.R,3,none⟩ (.bool b)):=
 ⟨h.rd.setHead b,h.gr.trans (iQ _ _ _ _)⟩
theorem aA.setPart{E:cw}{s:St}{w w':World}(h:aA E s w w')(n:Int):aA E { s with part:=n } w (w'.setCell ⟨E.R,4,none⟩ (.int .i64 n)):=
 ⟨h.rd.setPart n,h.gr.trans (iQ _ _ _ _)⟩
theorem aA.trans{E:cw}{s s':St}{w w1 w2:World}(h:aA E s w w1)(h':aA E s' w1 w2):aA E s' w w2:=⟨h'.rd,h.gr.trans h'.gr⟩
theorem aA.step{E:cw}{s:St}{w w1 w2:World}(h:aA E s w w1)(hb:Below w1 w1 w2):aA E s w w2:=h.trans ⟨h.rd.below hb,di _ hb⟩
theorem aA.alloc{E:cw}{s:St}{w w1:World}(h:aA E s w w1)(o:Obj):aA E s w (w1.alloc o):=h.step ((gH _ _).alloc (gC _) o)
theorem aA.drew{E:cw}{s:St}{w w1:World}(h:aA E s w w1):aA E s w w1.drew:=h.step (gH _ _).drew
theorem aA.drewN{E:cw}{s:St}{w w1:World}(h:aA E s w w1)(n:Nat):aA E s w (w1.drewN n):=h.step (bK (gH _ _) n)
theorem cJ.drewN{E:cw}{s:St}{w w1:World}(h:cJ E s w w1)(n:Nat):cJ E s w (w1.drewN n):=h.step (bK (gH _ _) n)
theorem aA.own{E:cw}{s:St}{w w1:World}(h:aA E s w w1){p:Addr}(D:w.heap.size<=p.block)(I:E.R<p.block)(u:Value):aA E s w (w1.setCell p u):=
 ⟨h.rd.far I u,by obtain⟨b,o,z⟩:=p;exact⟨h.gr.os,h.gr.tape,h.gr.output,by simpa using h.gr.size,fun k hk hne=>(jU w1 ⟨b,o,z⟩ u k (by simp at D |-;omega)).trans (h.gr.block k hk hne)⟩⟩
theorem oZ{E:cw}{s:St}{w:World}(_h:aU E w s){x:ByteArray}(D:aP E.c s x=true):s.at_<E.c.toks.length:=by
 rcases kL s.at_ E.c.toks.length with h|h
 ·exact h
 ·unfold aP at D;rw[nC E.c s.at_ h]at D;simp[TD]at D
theorem aZ(E:cw)(s:St)(x:ByteArray)(w:World)(h:aU E w s)(D:aP E.c s x=true):Calls prog 72 #[E.R,x] w fun e w'=>e=.returned (.bool true)/\aA E (adv s) w w':=by have N:=oZ h D;have I:=h.most;have O:=hid D;have U:=hid (bY E s x w h);clear D;(go_enter func72,ntmps72);go_wp2_with fail;refine U.out.mono ?_;rw[O.out];rintro e w'⟨rfl,hb⟩;have M:=(cJ.refl h).step hb;obtain⟨c0,c1,c2,c3,c4,J⟩:=M.rd.cells;have HF:=hid J;have f1:=J 1;clear hb J;go_wp2_with fail;go_ret;exact⟨rfl,M.moved.setAt (s.at_+1) (by omega)⟩
theorem bB(E:cw)(s:St)(x:ByteArray)(w:World)(h:aU E w s)(D:aP E.c s x=false):Calls prog 72 #[E.R,x] w fun e w'=>e=.returned (.bool false)/\cJ E s w w':=by have J:=hid D;have M:=hid (bY E s x w h);clear D;(go_enter func72,ntmps72);go_wp2_with fail;refine M.out.mono ?_;rw[J.out];rintro e w'⟨rfl,hb⟩;have I:=(cJ.refl h).step hb;clear hb;go_wp2_with fail;go_ret;exact⟨rfl,I⟩
theorem de(E:cw)(s:St)(x:ByteArray)(w:World)(h:aU E w s)(D:aP E.c s x=true):Calls prog 54 #[E.R,x] w fun e w'=>e=.returned (.tuple #[])/\aA E (adv s) w w':=by have J:=hid (aZ E s x w h D);clear D h;(go_enter func54,ntmps54);go_wp2_with fail;refine J.out.mono ?_;rintro e w'⟨rfl,I⟩;go_wp2_with fail;go_end0;exact⟨rfl,I⟩
theorem B5(E:cw)(s:St)(w:World)(h:aU E w s):Calls prog 73 #[E.R] w fun e w'=>e=.returned (.bool (d6 E.c s))/\cJ E s w w':=by have D:=cJ.refl h;have hs:d6 E.c s=(aP E.c s ⟨#[59]⟩||aP E.c s ⟨#[10]⟩):=rfl;have J:=hid (fun w'(h:aU E w' s)=>bY E s ⟨#[59]⟩ w' h);have I:=hid (fun w'(h:aU E w' s)=>bY E s ⟨#[10]⟩ w' h);rw[hs];clear hs;generalize aP E.c s ⟨#[59]⟩=a at *;generalize aP E.c s ⟨#[10]⟩=b at *;cases a<;>cases b;all_goals(go_enter func73,ntmps73);go_wp2_with fail;refine(J.out _ h).mono ?_;rintro e w'⟨rfl,hb⟩;replace D:=D.step hb;clear hb;go_wp2_with (go_at_call 33;refine(I.out _ D.rd).mono ?_;rintro e w'⟨rfl,hb⟩;replace D:=D.step hb;clear hb);go_ret;exact⟨rfl,D⟩
theorem uF(E:cw)(s:St)(w:World)(h:aU E w s):Calls prog 230 #[E.R] w fun e w'=>e=.returned (.bool (iR E.c s))/\cJ E s w w':=by have D:=cJ.refl h;have hs:iR E.c s=(aP E.c s ⟨#[44]⟩||aP E.c s ⟨#[93]⟩):=rfl;have J:=hid (fun w'(h:aU E w' s)=>bY E s ⟨#[44]⟩ w' h);have I:=hid (fun w'(h:aU E w' s)=>bY E s ⟨#[93]⟩ w' h);rw[hs];clear hs;generalize aP E.c s ⟨#[44]⟩=a at *;generalize aP E.c s ⟨#[93]⟩=b at *;cases a<;>cases b;all_goals(go_enter func230,ntmps230);go_wp2_with fail;refine(J.out _ h).mono ?_;rintro e w'⟨rfl,hb⟩;replace D:=D.step hb;clear hb;go_wp2_with (go_at_call 33;refine(I.out _ D.rd).mono ?_;rintro e w'⟨rfl,hb⟩;replace D:=D.step hb;clear hb);go_ret;exact⟨rfl,D⟩
theorem ld(E:cw)(s:St)(w:World)(h:aU E w s):Calls prog 57 #[E.R] w fun e w'=>e=.returned (.bool (d6 E.c s))/\aA E (fB E.c s) w w':=by
 have O:=hid (B5 E s w h);have hs:fB E.c s=if d6 E.c s=true then adv s else s:=rfl;have M:d6 E.c s=true->s.at_<E.c.toks.length:=fun hb=>by
  unfold d6 at hb;rcases Bool.or_eq_true_iff.1 hb with J|J
  ·exact oZ h J
  ·exact oZ h J
 have I:=h.most;rw[hs];clear hs;generalize d6 E.c s=a at *;cases a
 ·(go_enter func57,ntmps57);go_wp2_with fail;refine O.out.mono ?_;rintro e w'⟨rfl,D⟩;go_wp2_with fail;go_ret;exact⟨rfl,D.moved⟩
 ·have U:=M rfl;clear M;(go_enter func57,ntmps57);go_wp2_with fail;refine O.out.mono ?_;rintro e w'⟨rfl,D⟩;obtain⟨c0,c1,c2,c3,c4,N⟩:=D.rd.cells;have f1:=N 1;clear N;go_wp2_with fail;go_ret;exact⟨rfl,D.moved.setAt (s.at_+1) (by omega)⟩
theorem Lc(E:cw)(s:St)(D:(az E.c s.at_).kind=1):s.at_<E.c.toks.length:=by
 rcases kL s.at_ E.c.toks.length with h|h
 ·exact h
 ·rw[nC E.c s.at_ h]at D;simp at D
theorem lg(E:cw)(s:St)(w:World)(h:aU E w s)(N:(az E.c s.at_).kind=1):Calls prog 56 #[E.R] w fun e w'=>e=.returned (.string (az E.c s.at_).text)/\aA E (adv s) w w':=by have ga:=Lc E s N;have J:=h.most;have U:=hid (bL E s w h);generalize az E.c s.at_=t at *;obtain⟨tk,tt,tp⟩:=t;unfold fY at U;simp only at *;subst N;(go_enter func56,ntmps56);go_wp2_with fail;refine U.out.mono ?_;rintro e w'⟨rfl,hb⟩;have I:=(cJ.refl h).step hb;obtain⟨c0,c1,c2,c3,c4,O⟩:=I.rd.cells;have f1:=O 1;have D:=I.rd.lt;have M:=qi D;clear O;go_wp2_with fail;go_ret;exact⟨rfl,(I.moved.setAt (s.at_+1) (by omega)).alloc _⟩
theorem OX(E:cw)(s:St)(w:World)(h:aU E w s)(M:¬ (az E.c s.at_).kind=1):Calls prog 56 #[E.R] w fun e w'=>e=DR (aD E.c s)/\Below w w w':=by have I:=hid (bL E s w h);generalize az E.c s.at_=t at *;obtain⟨tk,tt,tp⟩:=t;unfold fY at I;simp only at *;(go_enter func56,ntmps56);go_wp2_with fail;refine I.out.mono ?_;rintro e w'⟨rfl,hb⟩;have D:=((cJ.refl h).step hb).alloc (.cells #[.int .i64 tk,.string tt,.int .i64 tp] 63);(have J:(tk != 1)=true:=by simpa using M);go_wp2_with fail;refine(Lb E s _ D.rd).mono ?_;rintro e w2⟨rfl,hb⟩;unfold DR;exact⟨rfl,rfl,au D.bel hb⟩
theorem Gw(E:cw)(s:St)(w:World)(h:aU E w s):Calls prog 168 #[E.R] w fun e w'=>e=.returned (.bool (oY E.c s))/\cJ E s w w':=by
 have D:=cJ.refl h;have hs:oY E.c s=((az E.c s.at_).kind==1||(aP E.c s ⟨#[91]⟩||(aP E.c s ⟨#[40]⟩||aP E.c s ⟨#[102,117,110,99]⟩))):=rfl;have I:=hid (bL E s w h);have N:=hid (fun w'(h:aU E w' s)=>bY E s ⟨#[91]⟩ w' h);have M:=hid (fun w'(h:aU E w' s)=>bY E s ⟨#[40]⟩ w' h);have J:=hid (fun w'(h:aU E w' s)=>bY E s ⟨#[102,117,110,99]⟩ w' h);rw[hs];clear hs;generalize aP E.c s ⟨#[91]⟩=a at *;generalize aP E.c s ⟨#[40]⟩=b at *;generalize aP E.c s ⟨#[102,117,110,99]⟩=d at *;generalize az E.c s.at_=t at *;obtain⟨tk,tt,tp⟩:=t;unfold fY at I;simp only at *;cases O:(tk==1)<;>cases a<;>cases b<;>cases d;all_goals
  (go_enter func168,ntmps168);go_wp2_with fail;refine I.out.mono ?_;rintro e w'⟨rfl,hb⟩;replace D:=D.step hb;clear hb;go_wp2_with (first
   |(go_at_call 33;with_reducible refine(N.out _ D.rd).mono ?_;rintro e w'⟨rfl,hb⟩;replace D:=D.step hb;clear hb)
   |(go_at_call 33;with_reducible refine(M.out _ D.rd).mono ?_;rintro e w'⟨rfl,hb⟩;replace D:=D.step hb;clear hb)
   |(go_at_call 33;with_reducible refine(J.out _ D.rd).mono ?_;rintro e w'⟨rfl,hb⟩;replace D:=D.step hb;clear hb))
  go_ret;exact⟨rfl,D⟩
theorem aM(a k:Int)(t:ByteArray)(v:Value)(w:World)(D:∃A n c,v=.slice A n c):Calls prog 55 #[a,k,t,v] w fun e w'=>e=.returned (.agg #[k,t,v,a])/\Below w w w':=by obtain⟨A,n,c,rfl⟩:=D;(go_enter func55,ntmps55);go_wp2_with fail;refine jY (v:=.agg #[k,t,.slice A n c,a]) (by simp[results,results55,go_sem]) rfl ⟨rfl,?_⟩;exact bel
def mu(E:cw)(w:World)(r:bQ Nd)(e:Ending)(w':World):Prop:=
 match r with
 | .ok n s=>(∃v,e=.returned v/\af (fun b=>w.heap.size<=b) w' v n)/\aA E s w w'
 | .out=>False
def cV(X:Nat->Prop)(w:World)(v:Value)(l:List Nd):Prop:=
 ∃A cap xs,v=.slice A l.length cap/\l.length<=cap/\fh X w 4 A l.length xs/\ah X w l xs
def Ld(E:cw)(w:World)(r:bQ (List Nd))(e:Ending)(w':World):Prop:=
 match r with
 | .ok l s=>(∃v,e=.returned v/\cV (fun b=>w.heap.size<=b) w' v l)/\aA E s w w'
 | .out=>False
def ie(E:cw)(k:FuncId)(args:Array Value)(m:R Nd)(w0:World):Prop:=
 ∀(w:World)(s:St),w0.grownBy w (some E.R)->aU E w s->m E.c s≠.out->Calls prog k args w (mu E w (m E.c s))
theorem ie.grown{E:cw}{k:FuncId}{args:Array Value}{m:R Nd}{w0 w1:World}(h:ie E k args m w0)(D:w0.grownBy w1 (some E.R)):ie E k args m w1:=
 fun w s hw hr hm=>h w s (D.trans hw) hr hm
theorem o0:(prog.info? 24).map (fun i=>(i.zero,i.size,i.bytes))=some (some (.agg #[.int .i64 0,.string ⟨#[]⟩,.slice none 0 0,.int .i64 0]),4,56):=by kernel_rfl
structure nD(B:Nat)(w:World)(v:Value)(l:List Nd):Prop where
 out:∃xs,w.ownsRow B 24 4 v l.length xs/\ah (fun b=>B<=b/\some b≠v.ownBlock) w l xs
theorem nD.nil(B:Nat)(w:World):nD B w (.slice none 0 0) []:=⟨[],qS _ _ _ _,ah.nil⟩
theorem nD.keep{B:Nat}{w w':World}{v:Value}{l:List Nd}(h:nD B w v l)(J:∀b,B<=b->b<w.heap.size->w'.heap[b]? = w.heap[b]?):nD B w' v l:=by
 obtain⟨xs,N,O⟩:=h.out;refine⟨xs,⟨N.1,?_⟩,O.keep fun b hb D=>J b hb.1 D⟩;rcases N.2 with U|⟨g,cap,cur,e,M,I,r⟩
 ·exact .inl U
 ·refine .inr ⟨g,cap,cur,e,M,?_,r⟩;have D:g<w.heap.size:=by
   rcases kL g w.heap.size with D|hge
   ·exact D
   ·rw[kN hge]at I;cases I
  exact(J g M D).trans I
theorem nD.grown{B R:Nat}{w w':World}{v:Value}{l:List Nd}(h:nD B w v l)(D:w.grownBy w' (some R))(I:R<B):nD B w' v l:=
 h.keep fun b hb hlt=>D.block b hlt (fun e=>by injection e;omega)
theorem nD.values{B:Nat}{w:World}{v:Value}{l:List Nd}(h:nD B w v l):cV (fun b=>B<=b) w v l:=by
 obtain⟨xs,D,J⟩:=h.out;rcases D.2 with⟨rfl,h0⟩|⟨g,cap,cur,rfl,hg,U,I,_,N,M⟩
 ·exact⟨none,0,xs,by rw[h0],by omega,⟨D.1,fun h=>by omega⟩,J.mono fun b hb _=>hb.1⟩
 ·refine⟨_,cap,xs,rfl,I,⟨D.1,fun _=>⟨g,0,rfl,hg,fun j u hu=>?_⟩⟩,J.mono fun b hb _=>hb.1⟩;(have O:j<l.length*4:=by have:=(List.getElem?_eq_some_iff.1 hu).1;rw[D.1]at this;exact this);rw[kR];unfold World.cell?;rw[U];simp only[qj,gW,jW];rw[<-M,qY O]at hu;rw[<-hu];simp
theorem nD.push{B S:Nat}{w1 w2:World}{u v':Value}{l:List Nd}{n:Nd}{o:Obj}{cs:List Value}{xs:List Value}
  (O:ah (fun b=>B<=b/\some b≠u.ownBlock) w1 l xs)
  (h:bG (fun b=>S<=b) w1 n cs)(hB:B<=S)(N:∀g,u.ownBlock=some g->g<S)
  (I:w2.ownsRow B 24 4 v' (l.length+1) (xs++cs))(U:(w1.alloc o).grownBy w2 u.ownBlock)(J:v'.ownBlock=u.ownBlock\/v'.ownBlock=some (w1.alloc o).heap.size):nD B w2 v' (l++[n]):=by
 refine⟨xs++cs,by rw[gM];exact I,?_⟩;have h1:ah (fun b=>B<=b/\some b≠u.ownBlock/\b<w1.heap.size) w1 (l++[n]) (xs++cs):=
  (O.mono fun b hb D=>⟨hb.1,hb.2,D⟩).app (ah.one (h.mono fun b hb D=>⟨jZ hB hb,fun e=>by have:=N b e.symm;omega,D⟩))
 have h2:=h1.keep (w':=w2) fun b hb D=>(U.block b (by rw[jO];omega) hb.2.1).trans (jI w1 o b D);refine h2.mono fun b hb _=>⟨hb.1,?_⟩;rcases J with e|e
 ·rw[e];exact hb.2.1
 ·rw[e,jO];intro M;injection M with M;omega
theorem rX(n:Nd)(A:Option Addr)(cap:Nat):∀u∈[Value.int .i64 n.kind,.string n.text,.slice A n.kids.length cap,.int .i64 n.pos],u.oneCell'=true:=by intro u D;simp only[vr,vm,or_false]at D;rcases D with rfl|rfl|rfl|rfl<;>rfl
theorem nD.lt{B:Nat}{w:World}{v:Value}{l:List Nd}(h:nD B w v l):∀g,v.ownBlock=some g->B<=g/\g<w.heap.size:=by obtain⟨xs,D,_⟩:=h.out;exact fun g hg=>D.lt g hg
structure Le(E:cw)(s:St)(B:Nat)(w w1 w2:World)(v':Value)(l:List Nd):Prop where
 own:nD B w2 v' l
 mov:aA E s w w2
 old:∀b,b<w1.heap.size->(B<=b->False)->w2.heap[b]? = w1.heap[b]?
 le:w1.heap.size<=w2.heap.size
theorem OY{o:Oper}{a:Act}{K:Act->World->Prop}{Q:Exit->Act->World->Prop}(s x:Operand)
  (ho:o.op=.call { callee:=.builtin .append,args:=#[s,x],argTypes:=#[22,22] })
  (E:cw)(st:St)(B S:Nat)(w w1:World)(u:Value)(l:List Nd)(n:Nd)(A:Option Addr)(cap:Nat)(hs:a.eval s=u)(hx:a.eval x=.slice (some ⟨w1,0,none⟩) 1 1)
  (hO:nD B w1 u l)(D:aA E st w w1)(ge:w.heap.size<=B)(hR:E.R<B)(hB:B<=S)(hS:S<=w1.heap.size)(hu:∀g,u.ownBlock=some g->g<S)(hl:l.length<=1000000)
  (hV:bG (fun b=>S<=b) w1 n [.int .i64 n.kind,.string n.text,.slice A n.kids.length cap,.int .i64 n.pos])
  (h:∀g c w2,Le E st B w w1 w2 (.slice (some ⟨g,0,none⟩) (l.length+1) c) (l++[n])->K (a.put o.dst (.slice (some ⟨g,0,none⟩) (l.length+1) c)) w2):
  o.wp prog a (w1.alloc (.cells (nv n A cap) 24)) K Q:=by
 obtain⟨i0,hi,U,O,N⟩:=qE o0;obtain⟨xs,J,gb⟩:=hO.out;refine vh _ s x 22 ho B 24 i0 _ 4 56 underlying22 hi U O N rfl (by omega) u l.length xs hs (J.alloc _) ⟨w1,0,none⟩ 1 1 [.int .i64 n.kind,.string n.text,.slice A n.kids.length cap,.int .i64 n.pos] hx rfl
  (qv (cs:=(nv n A cap)) (qq _ _)) (rX n A cap) (by omega) (by unfold maxLen;omega) (by omega) (by rw[jO];omega) _ rfl ?_
 intro g c w2 hown1 I gd _;have ga:∀g,u.ownBlock=some g->B<=g:=fun g I=>(hO.lt g I).1;have hold:∀b,b<w1.heap.size->(B<=b->False)->w2.heap[b]? = w1.heap[b]? :=fun b hb hBb=>(I.block b (by rw[jO];omega) (fun e=>hBb (ga b e.symm))).trans (jI w1 _ b hb);have M:w1.heap.size<=w2.heap.size:=jZ (by rw[jO];omega) I.size;refine h g c w2 ⟨nD.push gb hV hB hu hown1 I ?_,⟨D.rd.keep fun b hb=>?_,?_⟩,hold,M⟩
 ·rcases gd with e|e
  ·exact .inl (by rw[e];rfl)
  ·exact .inr (by rw[e];rfl)
 ·exact hold b (Nat.lt_of_le_of_lt hb D.rd.lt) (fun h2=>by omega)
 ·refine⟨I.os.trans D.gr.os,I.tape.trans D.gr.tape,I.output.trans D.gr.output,jZ D.gr.size M,fun k hk hne=>?_⟩;exact(hold k (kK hk D.gr.size) (fun h2=>by omega)).trans (D.gr.block k hk hne)
theorem B6{ops:Array Oper}{rest:List Oper}{o:Oper}{a:Act}{Q:Exit->Act->World->Prop}(I:o.guard=none)(s x:Operand)
  (N:o.op=.call { callee:=.builtin .append,args:=#[s,x],argTypes:=#[22,22] })
  (E:cw)(st:St)(B S:Nat)(w w1:World)(u:Value)(l:List Nd)(n:Nd)(A:Option Addr)(cap:Nat)(hs:a.eval s=u)(J:a.eval x=.slice (some ⟨w1,0,none⟩) 1 1)
  (hO:nD B w1 u l)(O:aA E st w w1)(D:w.heap.size<=B)(hR:E.R<B)(hB:B<=S)(hS:S<=w1.heap.size)(M:∀g,u.ownBlock=some g->g<S)(U:l.length<=1000000)
  (hV:bG (fun b=>S<=b) w1 n [.int .i64 n.kind,.string n.text,.slice A n.kids.length cap,.int .i64 n.pos])
  (h:∀g c w2,Le E st B w w1 w2 (.slice (some ⟨g,0,none⟩) (l.length+1) c) (l++[n])->wpList prog ops Q rest (a.put o.dst (.slice (some ⟨g,0,none⟩) (l.length+1) c)) w2):
  wpList prog ops Q (o::rest) a (w1.alloc (.cells (nv n A cap) 24)):=
 vj I fun _ hK=>OY s x N E st B S w w1 u l n A cap hs J hO O D hR hB hS M U hV fun g c w2 hp=>hK _ _ (h g c w2 hp)
theorem oa(E:cw)(k:FuncId)(first cap:Array Value)(part:R Nd)(en:ByteArray)(g:Nat)(s:St)(w:World)(h:aU E w s)
  (hk:∀a w,(callFunc k a).run prog w=.ok (.enter k a) w)(hp:ie E k (first++cap) part w)(gl:bh part en g [] E.c s≠.out)(gt:g<=1000000):
  Calls prog 106 #[E.R,en,.func (.func k) first cap] w (Ld E w (bh part en g [] E.c s)):=by
 generalize hres:bh part en g [] E.c s=res at *;have ga:=hid hres;have HP:=hid hp;have gi:=hid gl;obtain⟨i0,hi,gz,gy,gx⟩:=qE o0;clear hres hp gl;(go_enter func106,ntmps106);go_wp2_with fail;go_loopg [7] g (fun g u7 wr=>∃(acc:List Nd)(s':St),nD w.heap.size wr u7 acc/\acc.length+g<=1000000/\bh part en g acc E.c s'=res/\aA E s' w wr)
 case atStart=>exact⟨[],s,nD.nil _ _,by simpa using gt,ga.out,aA.refl h⟩
 case round=>
  obtain⟨acc,s1,U,gw,hr,hm⟩:=hrel;have HR:=hid hr;have HO:=hid U;clear hr U ga;cases gk with
  |zero=>exact absurd HR.out.symm (by rw[bh];exact gi.out)
  | succ g1=>
   cases hA:aP E.c s1 en with
   |true=>have HF:=hid (show res=.ok acc (adv s1)by rw[<-HR.out,bh];simp only[hA,kG]);go_wp2_with fail;refine(aZ E s1 en _ hm.rd hA).mono ?_;rintro e w1⟨rfl,D⟩;clear hA;go_wp2_with fail;go_ret;rw[HF.out];exact⟨⟨_,rfl,(HO.out.grown D.gr (h.lt)).values⟩,hm.trans D⟩
   | false=>
    have HE:=hid (show(part E.c s1).bind (fun n s2=>if aP E.c s2 en then .ok (acc++[n]) (adv s2)else(bV ⟨#[44]⟩ E.c s2).bind fun _ s3=>bh part en g1 (acc++[n]) E.c s3)=res by rw[<-HR.out,bh];simp only[hA,gW,jW]);clear HR;go_wp2_with fail;refine(bB E s1 en _ hm.rd hA).mono ?_;rintro e w1⟨rfl,gd⟩;clear hA;have D:=hm.trans gd.moved;have gh:=hid (HO.out.grown gd.moved.gr h.lt);clear HO hm gd;go_wp2_with fail;cases hP:part E.c s1 with
    |out=>exact absurd HE.out.symm (by rw[hP];exact gi.out)
    | ok n s2=>
     have O:=hid (show(if aP E.c s2 en then .ok (acc++[n]) (adv s2)else(bV ⟨#[44]⟩ E.c s2).bind fun _ s3=>bh part en g1 (acc++[n]) E.c s3)=res by rw[<-HE.out,hP];rfl);refine(HP.out w1 s1 D.gr D.rd (by rw[hP];exact nofun)).mono ?_;rw[hP];rintro e w2⟨⟨v,rfl,hv⟩,N⟩;obtain⟨A,cp,rfl,hC⟩:=hv.toC;have gs:=D.gr.size;have gn:=N.gr.size;have I:=h.lt;have HU:Hid (∀g,u7.ownBlock=some g->g<w1.heap.size):=hid (fun g hg=>(gh.out.lt g hg).2);have gp:=hid (gh.out.grown N.gr I);have HC:=hid hC;have gq:=hid (D.trans N);(have ge:acc.length<=1000000:=by omega);clear hP HE HP hv hC D N gh;go_wp2_with (at_builtin;refine B6 rfl (.tmp 12) (.tmp 15) rfl E s2 w.heap.size w1.heap.size w w2 u7 acc n A cp rfl rfl gp.out gq.out (gC _) I gs gn HU.out ge HC.out ?_;intro g3 c3 w3 hp3);have M:=hp3.mov;have gg:=hid hp3.own;clear hp3 gp gq HC HU;cases hB:aP E.c s2 en with
     |true=>have HF:=hid (show res=.ok (acc++[n]) (adv s2)by rw[<-O.out];simp only[hB,kG]);refine(aZ E s2 en _ M.rd hB).mono ?_;rintro e w4⟨rfl,J⟩;clear hB O;go_wp2_with fail;go_ret;rw[HF.out];exact⟨⟨_,rfl,(gg.out.grown J.gr I).values⟩,M.trans J⟩
     | false=>
      have gj:=hid (show(bV ⟨#[44]⟩ E.c s2).bind (fun _ s3=>bh part en g1 (acc++[n]) E.c s3)=res by rw[<-O.out];simp only[hB,gW,jW]);refine(bB E s2 en _ M.rd hB).mono ?_;rintro e w4⟨rfl,gb⟩;have J:=M.trans gb.moved;have gu:=hid (gg.out.grown gb.moved.gr I);clear hB O gg gb M;go_wp2_with fail;cases hD:aP E.c s2 ⟨#[44]⟩with
      |true=>
       have gv:Hid (bh part en g1 (acc++[n]) E.c (adv s2)=res):=hid (by rw[<-gj.out,bV];simp only[hD,kG,bQ.bind_ok]);refine(de E s2 ⟨#[44]⟩ _ J.rd hD).mono ?_;rintro e w5⟨rfl,gm⟩;clear hD gj;go_wp2_with fail;go_roundg g1
       case measure=>omega
       case rel=>exact⟨acc++[n],adv s2,gu.out.grown gm.gr I,by rw[gM];simp;omega,gv.out,J.trans gm⟩
      |false=>exact absurd (show res=.out by rw[<-gj.out,bV];simp only[hD,gW,jW];rfl) gi.out
structure am(X:Nat->Prop)(w w':World):Prop where
 size:w.heap.size<=w'.heap.size
 block:∀b,X b->b<w.heap.size->w'.heap[b]? = w.heap[b]?
section
variable {X:Nat->Prop} {w w' w'':World}
theorem am.refl(X:Nat->Prop)(w:World):am X w w:=⟨gC _,fun _ _ _=>rfl⟩
theorem am.trans(h:am X w w')(h':am X w' w''):am X w w'':=
 ⟨jZ h.size h'.size,fun b hb hlt=>(h'.block b hb (kK hlt h.size)).trans (h.block b hb hlt)⟩
theorem am.alloc(h:am X w w')(o:Obj):am X w (w'.alloc o):=
 h.trans ⟨by rw[jO];omega,fun b _ hlt=>jI w' o b hlt⟩
theorem am.drew(h:am X w w'):am X w w'.drew:=h.trans ⟨gC _,fun _ _ _=>rfl⟩
theorem am.drewN(h:am X w w')(n:Nat):am X w (w'.drewN n):=h.trans ⟨(bK (gH 0 _) n).size,fun b _ hlt=>(bK (gH w'.heap.size w') n).block b hlt⟩
theorem am.setCell(h:am X w w'){p:Addr}(D:X p.block->False)(u:Value):am X w (w'.setCell p u):=
 h.trans ⟨by simp[World.setCell],fun b hb _=>jU w' p u b (fun e=>D (e▸hb))⟩
theorem am.of_grown{r:Option Nat}(D:w.grownBy w' r)(I:∀g,r=some g->X g->False:=by intro g e hX;injection e with e;(try dsimp only at hX);omega):am X w w':=
 ⟨D.size,fun b hb hlt=>D.block b hlt (fun e=>I b e.symm hb)⟩
theorem am.of_below{B:Nat}(D:Below B w w')(I:∀b,X b->b<w.heap.size->b<B):am X w w':=
 ⟨D.size,fun b hb hlt=>D.block b (I b hb hlt)⟩
theorem af.kept{v:Value}{n:Nd}(h:af X w v n)(D:am X w w'):af X w' v n:=h.keep D.block
theorem cV.kept{v:Value}{l:List Nd}(h:cV X w v l)(D:am X w w'):cV X w' v l:=by obtain⟨A,cap,xs,e,M,J,I⟩:=h;exact⟨A,cap,xs,e,M,J.keep D.block,I.keep D.block⟩
theorem cV.mono{Y:Nat->Prop}{v:Value}{l:List Nd}(h:cV X w v l)(D:∀b,X b->b<w.heap.size->Y b):cV Y w v l:=by obtain⟨A,cap,xs,e,M,J,I⟩:=h;exact⟨A,cap,xs,e,M,J.mono D (by omega),I.mono D⟩
theorem ab{g:Nat}{t:TypeId}{a b c d:Value}(h:aq w g t #[a,b,c,d]):w.cell? ⟨g,0,none⟩=some a/\w.cell? ⟨g,1,none⟩=some b/\w.cell? ⟨g,2,none⟩=some c/\w.cell? ⟨g,3,none⟩=some d /\
  w.frozen? ⟨g,0,none⟩=false/\w.frozen? ⟨g,1,none⟩=false/\w.frozen? ⟨g,2,none⟩=false/\w.frozen? ⟨g,3,none⟩=false:=by have c0:=h.cell 0;have c1:=h.cell 1;have c2:=h.cell 2;have c3:=h.cell 3;simp at c0 c1 c2 c3;exact⟨c0,c1,c2,c3,h.frozen 0,h.frozen 1,h.frozen 2,h.frozen 3⟩
end
def bJ:Array Value:=#[.int .i64 0,.string ⟨#[]⟩,.slice none 0 0,.int .i64 0]
theorem eB{fn:Func}{q:Tmp}(I:fn.results = #[.cell q 24])(tmps:Array Value){w:World}{g:Nat}{a b c d:Value}(J:tmps.getD q undef=.pointer (some ⟨g,0,none⟩))(hb:aq w g 24 #[a,b,c,d]):
  (results fn tmps).run prog w=.ok (.agg #[a,b,c,d]) w:=by obtain⟨U,O,N,M,_,_,_,_⟩:=ab hb;unfold results;rw[I];(have D:tmps[q]?.getD undef=.pointer (some ⟨g,0,none⟩):=by simpa using J);simp[D,go_sem,U,O,N,M]
theorem B7(E:cw)(k:FuncId)(first cap:Array Value)(part:R Nd)(s:St)(w:World)(h:aU E w s)
  (hk:∀a w,(callFunc k a).run prog w=.ok (.enter k a) w)(hp:ie E k (first++cap) part w)(N:cB part E.c s≠.out):
  Calls prog 112 #[E.R,.func (.func k) first cap] w (mu E w (cB part E.c s)):=by
 generalize hres:cB part E.c s=res at *;have I:=hid hres;have HP:=hid hp;have gg:=hid N;obtain⟨c0,c1,c2,c3,c4,f0⟩:=h.cells;have f3:=f0 3;have O:=h.lt;have gh:=qi O;clear hres hp N f0;(go_enter func112,ntmps112);go_wp2_with fail;have J:aA E { s with head:=false } w ((w.setCell ⟨E.R,3,none⟩ (.bool false)).alloc (.cells bJ 24)):=((aA.refl h).setHead false).alloc _;(have ge:aq ((w.setCell ⟨E.R,3,none⟩ (.bool false)).alloc (.cells bJ 24)) w.heap.size 24 bJ:=by have:=aq.new (w.setCell ⟨E.R,3,none⟩ (.bool false)) 24 bJ;simpa[World.setCell]using this);cases U:part E.c { s with head:=false }with
 |out=>exact absurd I.out.symm (by rw[cB,U];exact gg.out)
 |ok n s1=>
  have HF:=hid (show res=.ok n { s1 with head:=s.head }by rw[<-I.out,cB,U];rfl);refine(HP.out _ _ J.gr J.rd (by rw[U];exact nofun)).mono ?_;rw[U];rintro e w2⟨⟨v,rfl,hv⟩,D⟩;obtain⟨A,cp,rfl,hC⟩:=hv.toC;have M:=ge.grown D.gr;obtain⟨d0,d1,d2,d3,e0,e1,e2,e3⟩:=ab M;obtain⟨x0,x1,x2,x3,x4,y0⟩:=D.rd.cells;have y3:=y0 3;have gj:=D.rd.lt;have gi:=M.lt;have ga:=D.gr.size;have gb:=J.trans D;simp only[jO]at ga;clear U I HP y0;go_wp2_with fail;have gd:=((((M.far (p:=⟨E.R,3,none⟩) (by show w.heap.size≠E.R;omega) (.bool s.head)).set_ 0 (.int .i64 n.kind)).set_ 1 (.string n.text)).set_ 2 (.slice A n.kids.length cp)).set_ 3 (.int .i64 n.pos) |>.alloc (.cells (nv n A cp) 24);refine jY (eB rfl _ (by rfl) (by simpa[bJ]using gd)) rfl ?_;rw[HF.out];refine⟨⟨_,rfl,(hv.kept ?_).mono ?_⟩,?_⟩
  ·(repeat'(first|with_reducible exact am.refl _ _|with_reducible refine am.alloc ?_ _|with_reducible refine am.setCell ?_ ?_ _|with_reducible refine am.drew ?_ |with_reducible refine am.drewN ?_ _|(intro hX;simp at hX;omega)))
  ·intro b hb _;simp at hb;omega
  ·have gk:=gb.setHead s.head;(repeat'(first|with_reducible assumption|with_reducible refine aA.alloc ?_ _|with_reducible refine aA.own ?_ ?_ ?_ _|with_reducible refine aA.drew ?_ |with_reducible refine aA.drewN ?_ _|(simp<;>omega)|omega))
theorem mv(E:cw)(k:FuncId)(first cap:Array Value)(part:R Nd)(s:St)(w:World)(h:aU E w s)
  (hk:∀a w,(callFunc k a).run prog w=.ok (.enter k a) w)(hp:ie E k (first++cap) part w)(N:db part E.c s≠.out):
  Calls prog 210 #[E.R,.func (.func k) first cap] w (mu E w (db part E.c s)):=by
 generalize hres:db part E.c s=res at *;have I:=hid hres;have HP:=hid hp;have gg:=hid N;obtain⟨c0,c1,c2,c3,c4,f0⟩:=h.cells;have f3:=f0 3;have O:=h.lt;have gh:=qi O;clear hres hp N f0;(go_enter func210,ntmps210);go_wp2_with fail;have J:aA E { s with head:=true } w ((w.setCell ⟨E.R,3,none⟩ (.bool true)).alloc (.cells bJ 24)):=((aA.refl h).setHead true).alloc _;(have ge:aq ((w.setCell ⟨E.R,3,none⟩ (.bool true)).alloc (.cells bJ 24)) w.heap.size 24 bJ:=by have:=aq.new (w.setCell ⟨E.R,3,none⟩ (.bool true)) 24 bJ;simpa[World.setCell]using this);cases U:part E.c { s with head:=true }with
 |out=>exact absurd I.out.symm (by rw[db,U];exact gg.out)
 |ok n s1=>
  have HF:=hid (show res=.ok n { s1 with head:=s.head }by rw[<-I.out,db,U];rfl);refine(HP.out _ _ J.gr J.rd (by rw[U];exact nofun)).mono ?_;rw[U];rintro e w2⟨⟨v,rfl,hv⟩,D⟩;obtain⟨A,cp,rfl,hC⟩:=hv.toC;have M:=ge.grown D.gr;obtain⟨d0,d1,d2,d3,e0,e1,e2,e3⟩:=ab M;obtain⟨x0,x1,x2,x3,x4,y0⟩:=D.rd.cells;have y3:=y0 3;have gj:=D.rd.lt;have gi:=M.lt;have ga:=D.gr.size;have gb:=J.trans D;simp only[jO]at ga;clear U I HP y0;go_wp2_with fail;have gd:=((((M.far (p:=⟨E.R,3,none⟩) (by show w.heap.size≠E.R;omega) (.bool s.head)).set_ 0 (.int .i64 n.kind)).set_ 1 (.string n.text)).set_ 2 (.slice A n.kids.length cp)).set_ 3 (.int .i64 n.pos) |>.alloc (.cells (nv n A cp) 24);refine jY (eB rfl _ (by rfl) (by simpa[bJ]using gd)) rfl ?_;rw[HF.out];refine⟨⟨_,rfl,(hv.kept ?_).mono ?_⟩,?_⟩
  ·(repeat'(first|with_reducible exact am.refl _ _|with_reducible refine am.alloc ?_ _|with_reducible refine am.setCell ?_ ?_ _|with_reducible refine am.drew ?_ |with_reducible refine am.drewN ?_ _|(intro hX;simp at hX;omega)))
  ·intro b hb _;simp at hb;omega
  ·have gk:=gb.setHead s.head;(repeat'(first|with_reducible assumption|with_reducible refine aA.alloc ?_ _|with_reducible refine aA.own ?_ ?_ ?_ _|with_reducible refine aA.drew ?_ |with_reducible refine aA.drewN ?_ _|(simp<;>omega)|omega))
def sN(E:cw)(k:FuncId)(args:Array Value)(m:R (List Nd))(w0:World):Prop:=
 ∀(w:World)(s:St),w0.grownBy w (some E.R)->aU E w s->m E.c s≠.out->Calls prog k args w (Ld E w (m E.c s))
theorem pF(E:cw)(k:FuncId)(first cap:Array Value)(part:R (List Nd))(s:St)(w:World)(h:aU E w s)
  (hk:∀a w,(callFunc k a).run prog w=.ok (.enter k a) w)(hp:sN E k (first++cap) part w)(J:cB part E.c s≠.out):
  Calls prog 173 #[E.R,.func (.func k) first cap] w (Ld E w (cB part E.c s)):=by
 generalize hres:cB part E.c s=res at *;have D:=hid hres;have HP:=hid hp;have ga:=hid J;obtain⟨c0,c1,c2,c3,c4,f0⟩:=h.cells;have f3:=f0 3;clear hres hp J f0;(go_enter func173,ntmps173);go_wp2_with fail;have I:=(aA.refl h).setHead false;cases N:part E.c { s with head:=false }with
 |out=>exact absurd D.out.symm (by rw[cB,N];exact ga.out)
 |ok n s1=>
  have HF:=hid (show res=.ok n { s1 with head:=s.head }by rw[<-D.out,cB,N];rfl);refine(HP.out _ _ I.gr I.rd (by rw[N];exact nofun)).mono ?_;rw[N];rintro e w2⟨⟨v,rfl,hv⟩,M⟩;obtain⟨x0,x1,x2,x3,x4,y0⟩:=M.rd.cells;have y3:=y0 3;have U:=I.trans M;have gb:=h.lt;have O:=I.gr.size;clear N D HP y0;go_wp2_with fail;go_ret;rw[HF.out];refine⟨⟨_,rfl,(hv.kept ?_).mono ?_⟩,?_⟩
  ·(repeat'(first|with_reducible exact am.refl _ _|with_reducible refine am.alloc ?_ _|with_reducible refine am.setCell ?_ ?_ _|with_reducible refine am.drew ?_ |with_reducible refine am.drewN ?_ _|(intro hX;simp at hX;omega)))
  ·intro b hb _;exact jZ O hb
  ·exact U.setHead s.head
end
end Go.Proofs.YteialcjaiocjdaaGreatDoor
