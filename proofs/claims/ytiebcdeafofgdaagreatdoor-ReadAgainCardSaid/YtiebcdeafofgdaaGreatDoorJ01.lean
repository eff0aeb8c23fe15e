/-
  Parts of the proof: Dplain Zord Pres Pres2. By an AI agent.
-/
import Derived.Test.YtiebcdeafofgdaaGreatDoorJ00
import Derived.OrdersHeld
import Derived.Deep.RegionHeld
namespace Go.Proofs.YtiebcdeafofgdaaGreatDoor
section
theorem d5:type_of% @Nat.le_refl:=@Nat.le_refl
theorem gB:type_of% @Bool.and_eq_true:=@Bool.and_eq_true
theorem gC:type_of% @decide_eq_true_eq:=@decide_eq_true_eq
theorem gD:type_of% @ByteArray.size_append:=@ByteArray.size_append
theorem gH:type_of% @Bool.or_eq_true:=@Bool.or_eq_true
theorem gM:type_of% @List.length_cons:=@List.length_cons
theorem gN:type_of% @List.getD_eq_getElem?_getD:=@List.getD_eq_getElem?_getD
theorem gV:type_of% @List.cons_append:=@List.cons_append
theorem jB:type_of% @Nat.le_trans:=@Nat.le_trans
theorem jC:type_of% @List.getElem_mem:=@List.getElem_mem
theorem jE:type_of% @Nat.le_succ:=@Nat.le_succ
theorem jK:type_of% @List.take_of_length_le:=@List.take_of_length_le
theorem jN:type_of% @Nat.le_of_lt:=@Nat.le_of_lt
theorem jP:type_of% @Nat.add_zero:=@Nat.add_zero
theorem jT:type_of% @ByteArray.size_extract:=@ByteArray.size_extract
theorem kK:type_of% @beq_iff_eq:=@beq_iff_eq
theorem m7:type_of% @Option.map_some:=@Option.map_some
theorem qd:type_of% @Nat.lt_succ_self:=@Nat.lt_succ_self
theorem qg:type_of% @List.extract_eq_take_drop:=@List.extract_eq_take_drop
theorem qB:type_of% @List.getElem?_eq_none:=@List.getElem?_eq_none
theorem qC:type_of% @List.all_eq_true:=@List.all_eq_true
theorem qR:type_of% @List.mem_of_mem_drop:=@List.mem_of_mem_drop
theorem qW:type_of% @List.drop_succ_cons:=@List.drop_succ_cons
theorem vi:type_of% @UInt8.toNat_lt:=@UInt8.toNat_lt
theorem vo:type_of% @Option.getD_some:=@Option.getD_some
theorem vw:type_of% @Bool.false_or:=@Bool.false_or
theorem vC:type_of% @Bool.false_and:=@Bool.false_and
def aa(s:ByteArray)(i:Nat):Nat:=(s.data.toList.getD i 0).toNat
theorem eU(s:ByteArray)(i:Nat):aa s i<256:=vi _
theorem wM(s:ByteArray)(j:Nat):(s.get! j).toNat=aa s j:=by obtain⟨bs⟩:=s;show(bs[j]!).toNat=(bs.toList.getD j 0).toNat;rw[Array.getElem!_eq_getD,gN,Array.getD_eq_getD_getElem?,Array.getElem?_toList];rfl
def GX(y0 y1 y2 y3:Nat)(c1 c2 c3:Prop)[Decidable c1][Decidable c2][Decidable c3]:Nat×Nat:=
 if y0<128 then(y0,1)
 else if y0/32=6/\c1/\y1/64=2 then(if 128<=y0%32*64+y1%64 then(y0%32*64+y1%64,2)else(65533,1))
 else if y0/16=14/\(c1/\y1/64=2)/\(c2/\y2/64=2)then(if 2048<=y0%16*4096+y1%64*64+y2%64/\Utf8.valid ((y0%16*4096+y1%64*64+y2%64:Nat):Int)=true then(y0%16*4096+y1%64*64+y2%64,3)else(65533,1))
 else if y0/8=30/\(c1/\y1/64=2)/\(c2/\y2/64=2)/\(c3/\y3/64=2)then(if 65536<=y0%8*262144+y1%64*4096+y2%64*64+y3%64/\Utf8.valid ((y0%8*262144+y1%64*4096+y2%64*64+y3%64:Nat):Int)=true then(y0%8*262144+y1%64*4096+y2%64*64+y3%64,4)else(65533,1))
 else(65533,1)
theorem mZ(s:ByteArray)(i:Nat):Utf8.decode s i=GX (aa s i) (aa s (i+1)) (aa s (i+2)) (aa s (i+3)) (i+1<s.size) (i+2<s.size) (i+3<s.size):=by unfold GX;simp only[Utf8.decode,wM,jP,gB,gC,kK,ge_iff_le,Utf8.runeError,and_assoc]
theorem l6(s:ByteArray)(i:Nat)(h:aa s i<128):Utf8.decode s i=(aa s i,1):=by rw[mZ,GX,gE h]
theorem ln(s:ByteArray)(i:Nat)(J:i<s.size)(h:128<=aa s i):
  128<=(Utf8.decode s i).1/\1<=(Utf8.decode s i).2/\i+(Utf8.decode s i).2<=s.size/\∀m,m<(Utf8.decode s i).2->128<=aa s (i+m):=by
 (have one:∀m,m<1->128<=aa s (i+m):=fun m D=>by(obtain rfl:m=0:=by omega);exact h);rw[mZ,GX,gA (by omega)];split
 ·rename_i I;split
  ·refine⟨by omega,by omega,by simp only;omega,fun m D=>?_⟩;have D:m<2:=D;rcases(by omega:m=0\/m=1)with rfl|rfl
   ·exact h
   ·omega
  ·exact⟨by omega,by omega,by simp only;omega,one⟩
 ·split
  ·rename_i I;split
   ·refine⟨by omega,by omega,by simp only;omega,fun m D=>?_⟩;have D:m<3:=D;rcases(by omega:m=0\/m=1\/m=2)with rfl|rfl|rfl
    ·exact h
    ·omega
    ·omega
   ·exact⟨by omega,by omega,by simp only;omega,one⟩
  ·split
   ·rename_i I;split
    ·refine⟨by omega,by omega,by simp only;omega,fun m D=>?_⟩;have D:m<4:=D;rcases(by omega:m=0\/m=1\/m=2\/m=3)with rfl|rfl|rfl|rfl
     ·exact h
     ·omega
     ·omega
     ·omega
    ·exact⟨by omega,by omega,by simp only;omega,one⟩
   ·exact⟨by omega,by omega,by simp only;omega,one⟩
theorem ie(s:ByteArray)(i j:Nat):aa (s.extract i s.size) j=aa s (i+j):=by unfold aa;rw[ByteArray.data_extract,Array.toList_extract,qg,jK (by rw[gR];exact Nat.le_of_eq rfl),gN,kY,<-gN]
theorem C6(s:ByteArray)(i j:Nat):Utf8.decode (s.extract i s.size) j=Utf8.decode s (i+j):=by(have D:(s.extract i s.size).size=s.size-i:=by rw[jT];omega);rw[mZ,mZ,ie,ie,ie,ie,D];(have M:(j+1<s.size-i)=(i+j+1<s.size):=by rw[eq_iff_iff];omega);(have J:(j+2<s.size-i)=(i+j+2<s.size):=by rw[eq_iff_iff];omega);(have I:(j+3<s.size-i)=(i+j+3<s.size):=by rw[eq_iff_iff];omega);simp only[M,J,I,Nat.add_assoc]
def bF(en:Nat):List UInt8->Bool->Nat->Option Nat
 |[],_,_=>none
 |c::r,true,k=>if c.toNat=10 then none else bF en r false (k+1)
 |c::r,false,k=>
  if c.toNat=92/\en=34 then bF en r true (k+1)
  else if c.toNat=en then some k
  else if c.toNat=10/\en≠96 then none
  else bF en r false (k+1)
theorem pI(en:Nat)(I:en<128):∀(n:Nat)(l:List UInt8)(b:Bool)(k:Nat),n<=l.length->(∀m,m<n->128<=(l.getD m 0).toNat)->bF en l b k=bF en (l.drop n) (b&&n==0) (k+n)
 |0,l,b,k,_,_=>by simp
 |n+1,[],b,k,h,_=>by simp at h
 |n+1,c::r,b,k,h,D=>by
  have hc:128<=c.toNat:=D 0 (by omega);have ih:=pI en I n r false (k+1) (by simpa using h) (fun m hm=>by simpa using D (m+1) (by omega));have e:bF en (c::r) b k=bF en r false (k+1):=by
   cases b with
   |true=>rw[bF,gA (by omega)]
   |false=>rw[bF,gA (by omega),gA (by omega),gA (by omega)]
  rw[e,ih];simp only[qW,vC];rw[show k+1+n=k+(n+1)by omega,show(b&&(n+1==0))=false by simp]
section
variable {P:Program} {ops:Array Oper} {Q:Exit->Act->World->Prop} {md:Region.Mode} {S:World->Prop} {L:Nat}
def ti(md:Region.Mode)(ops:Array Oper)(listed:Array Bool):Prop:=
 ∀(j:Nat)(o:Oper),ops[j]? = some o->listed.getD j false=true->∀e∈o.after,Region.binds md e=true->listed.getD e.on false=true
def wg(md:Region.Mode)(ops:Array Oper)(listed:Array Bool):Bool:=
 (List.range ops.size).all fun j =>!listed.getD j false||((ops[j]?).map (·.after.all fun e =>!Region.binds md e||listed.getD e.on false)).getD true
theorem Iq{listed:Array Bool}(h:wg md ops listed=true):ti md ops listed:=by intro j o ho J e he hb;unfold wg at h;rw[qC]at h;have D:=h j (List.mem_range.2 (Array.getElem?_eq_some_iff.1 ho).1);rw[ho,J]at D;simp only[Bool.not_true,vw,m7,vo,Array.all_eq_true_iff_forall_mem]at D;have I:=D e he;rw[hb]at I;simpa using I
theorem E8{listed:Array Bool}(h:ti md ops listed){i:Nat}(M:i∈Region.ready md ops listed):ti md ops (listed.setIfInBounds i true):=by
 intro j o ho hj e he hb;by_cases I:i=j
 ·subst I;obtain⟨_,o',D,J⟩:=mem_ready.1 M;rw[ho]at D;injection D with D;subst D;exact getD_set_true (J e he hb)
 ·rw[getD_set_ne false I]at hj;exact getD_set_true (h j o ho hj e he hb)
def Bh(md:Region.Mode)(ops:Array Oper):List Nat->Bool
 |a::b::r=>((ops[b]?).map (·.after.any fun e=>Region.binds md e&&e.on==a)).getD false&&Bh md ops (b::r)
 |_=>true
theorem uE{listed:Array Bool}(hc:ti md ops listed)(hL:L∈Region.ready md ops listed):∀(p:List Nat)(a:Nat),Bh md ops (a::p)=true->p.getLast? = some L->listed.getD a false=true
 |[],_,_,h=>by simp at h
 |b::r,a,N,O=>by
  unfold Bh at N;rw[gB]at N;obtain⟨D,hr⟩:=N;cases M:ops[b]? with
  |none=>rw[M]at D;simp at D
  |some o=>
   rw[M]at D;simp only[m7,vo]at D;rw[Array.any_eq_true']at D;obtain⟨e,he,D⟩:=D;rw[gB,kK]at D;obtain⟨hb,rfl⟩:=D;cases r with
   |nil=>simp at O;subst O;obtain⟨_,o',I,J⟩:=mem_ready.1 hL;rw[M]at I;injection I with I;subst I;exact J e he hb
   |cons c r'=>have U:=uE hc hL (c::r') b hr (by simpa using O);exact hc b o M U e he hb
def ma(P:Program)(md:Region.Mode)(ops:Array Oper)(Q:Exit->Act->World->Prop)(S:World->Prop)(L:Nat):Nat->Array Bool->Act->World->Prop
 |0,listed,a,w=>Region.ready md ops listed=[]/\Q .normal a w
 |fuel+1,listed,a,w=>
  (Region.ready md ops listed=[]->Q .normal a w) /\
  ∀i∈Region.ready md ops listed,wpOp P ops Q i (fun a' w'=>(S w'\/i=L)/\ma P md ops Q S L fuel (listed.setIfInBounds i true) a' w') a w
theorem yk:∀(fuel:Nat)(listed:Array Bool)(a:Act)(w:World),ma P md ops Q S L fuel listed a w->wpAny P md ops Q fuel listed a w
 |0,_,_,_,h=>h
 |fuel+1,_,_,_,h=>⟨h.1,fun i hi=>wpOp_mono (fun a' w' h'=>yk fuel _ a' w' h'.2) (h.2 i hi)⟩
theorem B6{i:Nat}{oi:Oper}{v:Value}(hi:ops[i]? = some oi)(M:∀(j:Nat)(o:Oper)cs b,ops[j]? = some o->o.op≠.select cs b)
  (hQ:∀c a w,Q (.panic c) (a.put oi.dst v) w->Q (.panic c) a w)(p:List Nat)(hp:Bh md ops (i::p)=true)(hl:p.getLast? = some L):
  ∀(fuel:Nat)(listed:Array Bool)(a:Act)(w:World),ti md ops listed ->
    (∀j oj,ops[j]? = some oj->j≠i->listed.getD j true=false->(∀e∈oj.after,Region.binds md e=true->e.on≠i)->oi.apart ops oj=true) ->
    i∈Region.ready md ops listed->YieldsIf P ops S oi v a->S w ->
    ma P md ops Q S L fuel (listed.setIfInBounds i true) (a.put oi.dst v) w->ma P md ops Q S L (fuel+1) listed a w:=by
 intro fuel;induction fuel with
 |zero=>
  intro listed a w _ _ O hy hS H;refine⟨fun h=>(by rw[h]at O;cases O),fun j hj=>?_⟩;by_cases D:j=i
  ·subst D;exact hy.wpOp hi hS ⟨.inl hS,H⟩
  ·have:=ready_mono hj D;rw[H.1]at this;cases this
 |succ fuel ih=>
  intro listed a w hcl I O hy hS H;refine⟨fun h=>(by rw[h]at O;cases O),fun j hj=>?_⟩;by_cases D:j=i
  ·subst D;exact hy.wpOp hi hS ⟨.inl hS,H⟩
  ·have h1:=H.2 j (ready_mono hj D);obtain⟨N,oj,U,gg⟩:=mem_ready.1 hj;have ga:listed.getD i false=false:=by
    have h0:=(mem_ready.1 O).1;rcases jZ i listed.size with h'|h'
    ·simp[h']at h0 |-;exact h0
    ·simp[Array.getElem?_eq_none h']
   (have ge:j≠L:=by rintro rfl;rw[uE hcl hj p i hp hl]at ga;cases ga);(have gb:∀e∈oj.after,Region.binds md e=true->e.on≠i:=fun e he hb heq=>by have h1:=gg e he hb;rw[heq,ga]at h1;cases h1);have h2:=wpOp_putIf U (I j oj U D N gb) (fun cs b=>M i oi cs b hi) (fun cs b=>M j oj cs b U) hQ hy h1;have J:∀k ok,ops[k]? = some ok->k≠i->(listed.setIfInBounds j true).getD k true=false ->
     (∀e∈ok.after,Region.binds md e=true->e.on≠i)->oi.apart ops ok=true:=fun k ok hk hki hun hno=>by
    refine I k ok hk hki ?_ hno;by_cases gd:j=k
    ·subst gd;exact N
    ·rw[getD_set_ne true gd]at hun;exact hun
   refine wpOp_mono (fun a' w' h3=>⟨.inl (h3.2.1.resolve_right ge),ih (listed.setIfInBounds j true) a' w' (E8 hcl hj) J (ready_mono O (Ne.symm D)) h3.1 (h3.2.1.resolve_right ge) ?_⟩) h2;rw[Array.setIfInBounds_comm _ _ D];exact h3.2.2
theorem DK{i:Nat}{oi:Oper}{v:Value}{fuel:Nat}{listed:Array Bool}{a:Act}{w:World}(p:List Nat)(D:ops[i]? = some oi)
  (hc:wg md ops listed=true)(M:Bh md ops (i::p)=true)(N:p.getLast? = some L)
  (hs:Region.noSelect ops=true)(O:Region.free md ops listed i=true)(J:(Region.ready md ops listed).contains i=true)
  (hQ:∀c a w,Q (.panic c) (a.put oi.dst v) w->Q (.panic c) a w)(I:YieldsIf P ops S oi v a)(U:S w)
  (h:ma P md ops Q S L fuel (listed.setIfInBounds i true) (a.put oi.dst v) w):ma P md ops Q S L (fuel+1) listed a w:=
 B6 D (Region.noSelect_spec hs) hQ p M N fuel listed a w (Iq hc) (Region.free_spec D O) (by simpa using J) I U h
theorem Aw(i:Nat){oi:Oper}{v:Value}{fuel:Nat}{listed:Array Bool}{a:Act}{w:World}(p:List Nat)(N:S w)
  (h:ma P md ops Q S L fuel (listed.setIfInBounds i true) (a.put oi.dst v) w)(M:ops[i]? = some oi:=by rfl)
  (hc:(wg md ops listed&&(Bh md ops (i::p)&&(Region.noSelect ops&&(Region.free md ops listed i&&(Region.ready md ops listed).contains i))))=true:=by kernel_rfl)(J:p.getLast? = some L:=by rfl)
  (O:∀c a w,Q (.panic c) (a.put oi.dst v) w->Q (.panic c) a w:=by exact fun _ _ _ h=>h)(I:Region.wanted oi (yielded ops a.tmps)=true:=by rfl)
  (D:∀w,S w->(execOp a.eval oi).run P w=.ok (.value v) w:=by intro w hSw;(try dsimp only[SS]at hSw);go_simp;try(with_reducible rfl)):ma P md ops Q S L (fuel+1) listed a w:=by simp only[gB]at hc;exact DK p M hc.1 hc.2.1 J hc.2.2.1 hc.2.2.2.1 hc.2.2.2.2 O (Or.inl ⟨I,D⟩) N h
def dw(P:Program)(md:Region.Mode)(ops:Array Oper)(Q:Exit->Act->World->Prop)(S:World->Prop)(L:Nat)(fuel:Nat)(listed:Array Bool)(a:Act)(w:World)(rs:List Nat):Prop:=
 ∀i∈rs,wpOp P ops Q i (fun a' w'=>(S w'\/i=L)/\ma P md ops Q S L fuel (listed.setIfInBounds i true) a' w') a w
theorem dw.nil{fuel:Nat}{listed:Array Bool}{a:Act}{w:World}:dw P md ops Q S L fuel listed a w []:=fun _ h=>by cases h
theorem dw.cons{fuel:Nat}{listed:Array Bool}{a:Act}{w:World}{i:Nat}{o:Oper}{rs:List Nat}(I:ops[i]? = some o)
  (h:∀K':Act->World->Prop,Shut (∀a w,(S w\/i=L)->(S w\/i=L->ma P md ops Q S L fuel (listed.setIfInBounds i true) a w)->K' a w)->if Region.wanted o (yielded ops a.tmps)=true then Oper.wp P o a w K' Q else K' (a.put o.dst undef) w)
  (hs:dw P md ops Q S L fuel listed a w rs):dw P md ops Q S L fuel listed a w (i::rs):=fun j hj=>by
 rcases List.mem_cons.1 hj with rfl|hj
 ·exact wpOp_step I (fun K' hK=>h K' (fun a w D hW=>hK a w ⟨D,hW D⟩))
 ·exact hs j hj
theorem bh{rs:List Nat}{fuel:Nat}{listed:Array Bool}{a:Act}{w:World}(I:Region.ready md ops listed=rs)(D:rs≠[])
  (h:dw P md ops Q S L fuel listed a w rs):ma P md ops Q S L (fuel+1) listed a w:=
 ⟨fun J=>absurd (I▸J) D,I▸h⟩
theorem mz{listed:Array Bool}{a:Act}{w:World}(D:Region.ready md ops listed=[])(h:Q .normal a w):
  ∀fuel,ma P md ops Q S L fuel listed a w
 |0=>⟨D,h⟩
 |_+1=>⟨fun _=>h,by rw[D];simp⟩
theorem mA(L:Nat){id:Nat}{a:Act}{w:World}(D:P.follows .mixedOrders=true)(I:S w.drew)
  (h:S w.drew->ma P .any ops Q S L ops.size (Array.replicate ops.size false) a w.drew):(Code.region id ops true).wp P Q a w:=
 wp_region_any D (yk _ _ _ _ (h I))
end
mutual
def iM:Nd->Nat
 | .mk _ _ l _=>lw l+1
def lw:List Nd->Nat
 |[]=>0
 |n::l=>iM n+lw l
end
theorem aQ(k t l a):iM (.mk k t l a)=lw l+1:=by rw[iM]
theorem aL:lw []=0:=by rw[lw]
theorem aw(n l):lw (n::l)=iM n+lw l:=by rw[lw]
theorem mB:iM bU=1:=by unfold bU;rw[aQ,aL]
theorem lr:∀l m:List Nd,lw (l++m)=lw l+lw m
 |[],m=>by rw[aL];simp
 |n::l,m=>by rw[gV,aw,aw,lr l m];omega
theorem ym:∀l:List Nd,l.length<=lw l
 |[]=>by simp
 | .mk k t m a::l=>by rw[aw,aQ,gM];have:=ym l;omega
def rG(n:Nd):Prop:=n.kids=[]/\n.pos=0/\n.text.size=0/\(n.kind=0\/n.kind=6)
theorem ii:rG bU:=⟨rfl,rfl,rfl,.inl rfl⟩
mutual
def a7(c:Cx)(i j:Nat):Nd->Prop
 | .mk k t l a=>t.size<=1000000000/\(k=22->∃x r,l=x::r/\r≠[]/\x.kind≠10/\x.pos=a)/\∃m,i<=m/\m<j/\a=(ar c m).pos/\az c m j l
def az(c:Cx)(i j:Nat):List Nd->Prop
 |[]=>True
 |x::r=>(rG x\/a7 c i j x)/\az c i j r
end
section
variable {c:Cx} {i i' j j' m:Nat}
theorem fS{k t l a}:a7 c i j (.mk k t l a)↔(t.size<=1000000000/\(k=22->∃x r,l=x::r/\r≠[]/\x.kind≠10/\x.pos=a)/\∃m,i<=m/\m<j/\a=(ar c m).pos/\az c m j l):=by rw[a7]
theorem az.nil:az c i j []:=by rw[az];trivial
theorem cz{x r}:az c i j (x::r)↔((rG x\/a7 c i j x)/\az c i j r):=by rw[az]
theorem az.app:∀{l l':List Nd},az c i j l->az c i j l'->az c i j (l++l')
 |[],_,_,h=>h
 |x::r,_,h,h'=>by rw[cz]at h;rw[gV,cz];exact⟨h.1,h.2.app h'⟩
theorem az.cons{x r}(h:a7 c i j x)(D:az c i j r):az c i j (x::r):=cz.2 ⟨.inr h,D⟩
theorem az.consZ{x r}(h:rG x)(D:az c i j r):az c i j (x::r):=cz.2 ⟨.inl h,D⟩
mutual
theorem a7.mono{i i' j j':Nat}(O:i'<=i)(D:j<=j'):∀n:Nd,a7 c i j n->a7 c i' j' n
 | .mk k t l a,h=>by rw[fS]at h |-;obtain⟨N,M,m,h3,U,J,I⟩:=h;exact⟨N,M,m,by omega,by omega,J,az.mono (d5 m) D l I⟩
theorem az.mono{i i' j j':Nat}(I:i'<=i)(D:j<=j'):∀l:List Nd,az c i j l->az c i' j' l
 |[],_=>az.nil
 |x::r,h=>by rw[cz]at h |-;exact⟨h.1.imp id (fun h=>a7.mono I D x h),az.mono I D r h.2⟩
end
theorem a7.make{k t l}(m:Nat)(D:t.size<=1000000000)(J:k≠22)(N:i<=m)(M:m<j)(I:az c m j l):a7 c i j (.mk k t l (ar c m).pos):=
 fS.2 ⟨D,fun h=>absurd h J,m,N,M,rfl,I⟩
def cc{α:Type}(b:Prop)(Q:α->St->Prop):bH α->Prop
 | .ok a s=>Q a s
 | .fail _=>True
 | .out=>¬ b
theorem cc.bind{α β:Type}{b b':Prop}{Q:α->St->Prop}{Q':β->St->Prop}{r:bH α}{f:α->St->bH β}(h:cc b' Q r)(hb:b->b')(I:∀a s,Q a s->cc b Q' (f a s)):cc b Q' (r.bind f):=by
 cases r with
 |ok a s=>exact I a s h
 |fail p=>trivial
 |out=>exact fun D=>h (hb D)
theorem cc.mono{α:Type}{b b':Prop}{Q Q':α->St->Prop}{r:bH α}(h:cc b Q r)(hb:b'->b)(I:∀a s,Q a s->Q' a s):cc b' Q' r:=by
 cases r with
 |ok a s=>exact I a s h
 |fail p=>trivial
 |out=>exact fun D=>h (hb D)
theorem cc.ite{α:Type}{b:Prop}{Q:α->St->Prop}{p:Prop}[Decidable p]{x y:bH α}(I:p->cc b Q x)(D:¬ p->cc b Q y):cc b Q (if p then x else y):=by
 split
 ·exact I ‹_›
 ·exact D ‹_›
theorem pW{i:Nat}(h:c.toks.length<=i):ar c i=⟨0,⟨#[]⟩,c.fin⟩:=by unfold ar;rw[qB h]
theorem pX{i:Nat}(h:i<c.toks.length):ar c i=c.toks[i]:=by unfold ar;rw[gQ h]
theorem o9{s:St}{x:ByteArray}(h:aP c s x=true):s.at_<c.toks.length:=by
 rcases jZ s.at_ c.toks.length with D|D
 ·exact D
 ·unfold aP OM at h;rw[pW D]at h;simp at h
theorem rt{i:Nat}(h:(ar c i).kind≠0):i<c.toks.length:=by
 rcases jZ i c.toks.length with D|D
 ·exact D
 ·rw[pW D]at h;exact absurd rfl h
theorem pY{s:St}(h:dV c s=true):s.at_<c.toks.length:=by unfold dV at h;rw[gH]at h;exact h.elim o9 o9
def RJ(c:Cx)(s s1:St):Prop:=s1.at_=s.at_+1/\s1.at_<=c.toks.length
theorem RJ.lt{s s1:St}(h:RJ c s s1):s.at_<s1.at_:=by have:=h.1;omega
theorem nT{s:St}(h:s.at_<c.toks.length):RJ c s (adv s):=⟨rfl,h⟩
theorem bM{s:St}{x:ByteArray}(h:aP c s x=true):RJ c s (adv s):=nT (o9 h)
theorem ei{b:Prop}(x:ByteArray)(s:St):cc b (fun _ s1=>RJ c s s1) (need x c s):=by
 unfold need;split
 ·exact bM ‹_›
 ·trivial
structure uQ(c:Cx):Prop where
 txt:∀t∈c.toks,t.text.size<=65536
 num:∀t∈c.toks,(lY t.text).size<=1000000000
 str:∀t∈c.toks,(i6 t.text).size<=1000000000
 rg:∀s x s',bI c s=some (x,s')->s'.at_<=c.toks.length
theorem uQ.at_(h:uQ c)(i:Nat):(ar c i).text.size<=65536:=by
 rcases jZ i c.toks.length with D|D
 ·rw[pX D];exact h.txt _ (jC D)
 ·rw[pW D];show(0:Nat)<=_;omega
theorem mC{b:Prop}(hT:uQ c)(s:St):cc b (fun x s1=>RJ c s s1/\x.size<=65536) (cG c s):=by
 unfold cG;split
 ·rename_i h;exact⟨nT (rt (by rw[h];decide)),hT.at_ _⟩
 ·trivial
theorem DO{s:St}{x y:ByteArray}(I:aP c s x=true)(D:aP c s y=true):x=y:=by unfold aP OM at I D;rw[gB,gC]at I D;rw[<-I.2,<-D.2]
theorem DP{s:St}(h:(ar c s.at_).kind=1)(x:ByteArray):¬ aP c s x=true:=by unfold aP OM;rw[h];simp
theorem Iv{b:Prop}(hT:uQ c)(s:St):cc b (fun x D=>(D.at_=s.at_+1/\D.at_<=c.toks.length/\(ar c s.at_).kind=1)/\x.size<=65536) (cG c s):=by
 unfold cG;split
 ·rename_i h;exact⟨⟨rfl,rt (by rw[h];decide),h⟩,hT.at_ _⟩
 ·trivial
theorem Mx(s:St)(h:s.at_<=c.toks.length):s.at_<=(eP c s).at_/\(eP c s).at_<=c.toks.length:=by
 unfold eP;split
 ·rename_i D;have:=pY D;exact⟨jE _,this⟩
 ·exact⟨d5 _,h⟩
structure cE(c:Cx)(i0 i sl:Nat)(n:Nd)(j:Nat):Prop where
 lt:i<j
 le:j<=c.toks.length
 ok:a7 c i0 j n
 cnt:iM n+sl<=8*(j-i)
structure My(c:Cx)(i0 i C:Nat)(l:List Nd)(j:Nat):Prop where
 lt:i<j
 le:j<=c.toks.length
 ok:az c i0 j l
 cnt:lw l+8<=C+8*(j-i)
theorem oH{part:R Nd}{en:ByteArray}{b:Prop}{i0 lo:Nat}(M:∀s,lo<=s.at_->s.at_<=c.toks.length->cc b (fun n D=>cE c s.at_ s.at_ 0 n D.at_) (part c s)):
  ∀(g C:Nat)(acc:List Nd)(s:St),lo<=s.at_->i0<=s.at_->s.at_<=c.toks.length->az c i0 s.at_ acc->lw acc<=C ->
    cc (b/\c.toks.length-s.at_<g) (fun l D=>My c i0 s.at_ C l D.at_) (aX part en g acc c s)
 |0,_,_,_,_,_,_,_,_=>fun h=>absurd h.2 (by omega)
 |g+1,C,acc,s,h1,h2,h3,N,h5=>by
  unfold aX;refine cc.ite (fun J=>?_) (fun J=>?_)
  ·have:=bM J;exact⟨this.lt,this.2,az.mono (d5 _) (jN this.lt) _ N,by have:=this.1;omega⟩
  ·refine(M s h1 h3).bind (fun h=>h.1) fun n D hn=>?_;have I:az c i0 D.at_ (acc++[n]):=(az.mono (d5 _) (jN hn.lt) _ N).app (az.cons (a7.mono h2 (d5 _) _ hn.ok) az.nil);(have U:lw (acc++[n])=lw acc+iM n:=by rw[lr,aw,aL];omega);have O:=hn.lt;have ga:=hn.cnt;refine cc.ite (fun J=>?_) (fun J=>?_)
   ·have:=bM J;exact⟨by have:=this.1;omega,this.2,az.mono (d5 _) (jN this.lt) _ I,by have:=this.1;omega⟩
   ·refine(ei (b:=True) _ D).bind (fun _=>trivial) fun _ s2 ho=>?_;have e1:=ho.1;have e2:=ho.2;refine(oH M g (C+8*(D.at_-s.at_)) (acc++[n]) s2 (by omega) (by omega) e2 (az.mono (d5 _) (by omega) _ I) (by omega)).mono (fun h=>⟨h.1,by omega⟩) fun l s3 h=>?_;have e3:=h.lt;have e4:=h.cnt;exact⟨by omega,h.le,h.ok,by omega⟩
structure Mz(c:Cx)(g:Nat)(F:fJ):Prop where
 hg:F.g=g
 typ:∀s,s.at_<=c.toks.length->cc (3*(c.toks.length-s.at_)+1<=g) (fun n s1=>cE c s.at_ s.at_ 7 n s1.at_/\(n.kind=10\/n.kind=11\/n.kind=12)/\(aP c s ⟨#[91]⟩=true->n.kind≠10)) (F.typ c s)
 expr:∀s,s.at_<=c.toks.length->cc (3*(c.toks.length-s.at_)+2<=g) (fun n s1=>cE c s.at_ s.at_ 7 n s1.at_/\n.kind≠10/\n.kind<26) (F.expr c s)
 unary:∀s,s.at_<=c.toks.length->cc (3*(c.toks.length-s.at_)+2<=g) (fun n s1=>cE c s.at_ s.at_ 7 n s1.at_/\n.kind≠10/\n.kind<26) (F.unary c s)
 stmt:∀s,s.at_<=c.toks.length->cc (3*(c.toks.length-s.at_)+3<=g) (fun n s1=>cE c s.at_ s.at_ 6 n s1.at_) (F.stmt c s)
 ifS:∀s,s.at_<=c.toks.length->cc (3*(c.toks.length-s.at_)+3<=g) (fun n s1=>cE c s.at_ s.at_ 6 n s1.at_) (F.ifS c s)
end
section
variable {c:Cx} {g:Nat} {F:fJ} (hF:Mz c g F) (hT:uQ c)
include hF hT
theorem E9(s:St)(hs:s.at_<=c.toks.length):cc (3*(c.toks.length-s.at_)+1<=g) (fun n D=>s.at_<=D.at_/\D.at_<=c.toks.length/\(rG n\/a7 c s.at_ D.at_ n)/\iM n<=1+8*(D.at_-s.at_)) (dg F c s):=by
 have _:=hT;unfold dg;refine cc.ite (fun _=>?_) (fun _=>?_)
 ·refine(hF.typ s hs).mono id fun n D h=>?_;have:=h.1.cnt;have:=h.1.lt;exact⟨by omega,h.1.le,.inr h.1.ok,by omega⟩
 ·exact⟨d5 _,hs,.inl ii,by rw[mB];omega⟩
theorem Fa(s:St)(hs:s.at_<=c.toks.length):cc (3*(c.toks.length-s.at_)+1<=g) (fun n s1=>cE c s.at_ s.at_ 0 n s1.at_) (lB F c s):=by have _:=hT;unfold lB;refine(hF.typ s hs).bind id fun n s1 h=>?_;have h:=h.1;refine⟨h.lt,h.le,a7.make _ (by show(0:Nat)<=_;omega) (by decide) (d5 _) h.lt (az.cons h.ok az.nil),?_⟩;rw[aQ,aw,aL];have:=h.cnt;omega
theorem DQ(s:St)(hs:s.at_<=c.toks.length):cc (3*(c.toks.length-s.at_)+1<=g) (fun n s1=>cE c s.at_ s.at_ 0 n s1.at_) (eG F c s):=by have _:=hs;unfold eG;refine(mC (b:=True) hT s).bind (fun _=>trivial) fun x s0 h0=>?_;have I:=h0.1.1;refine(hF.typ s0 h0.1.2).bind (fun h=>by omega) fun n s1 h=>?_;have h:=h.1;have D:=h.lt;refine⟨by omega,h.le,a7.make _ (jB h0.2 (by decide)) (by decide) (d5 _) (by omega) (az.cons (a7.mono (by omega) (d5 _) _ h.ok) az.nil),?_⟩;rw[aQ,aw,aL];have:=h.cnt;omega
theorem uF{part:R Nd}(D:∀s,s.at_<=c.toks.length->cc (3*(c.toks.length-s.at_)+1<=g) (fun n s1=>cE c s.at_ s.at_ 0 n s1.at_) (part c s))(i0:Nat)(s:St)(hs:s.at_<=c.toks.length)(J:i0<=s.at_):
  cc (3*(c.toks.length-s.at_)<=g) (fun n s1=>cE c i0 s.at_ 7 n s1.at_/\n.kind=12)
   ((need ⟨#[40]⟩ c s).bind fun _ s1=>(aX part ⟨#[41]⟩ F.g [] c s1).bind fun l s2=>(dg F c s2).bind fun r s3=>.ok (.mk 12 ⟨#[]⟩ [.mk 6 ⟨#[]⟩ l (av c s),r] (ar c i0).pos) s3):=by have _:=hs;refine(ei (b:=True) _ s).bind (fun _=>trivial) fun _ s1 h1=>?_;have e1:=h1.1;have U:=h1.2;rw[hF.hg];refine(oH (i0:=s.at_) (lo:=s1.at_) (b:=3*(c.toks.length-s1.at_)+1<=g) (fun s' hlo hs'=>(D s' hs').mono (fun h=>by omega) fun _ _ h=>h) g 0 [] s1 (d5 _) (by omega) h1.2 az.nil (by rw[aL];omega)).bind (fun h=>⟨by omega,by omega⟩) fun l s2 h2=>?_;have e2:=h2.lt;have e3:=h2.cnt;refine(E9 hF hT s2 h2.le).bind (fun h=>by omega) fun r s3 h3=>?_;obtain⟨O,N,M,e7⟩:=h3;have I:a7 c i0 s3.at_ (.mk 6 ⟨#[]⟩ l (av c s)):=a7.make s.at_ (by show(0:Nat)<=_;omega) (by decide) J (by omega) (az.mono (d5 _) O _ h2.ok);refine⟨⟨by omega,N,a7.make _ (by show(0:Nat)<=_;omega) (by decide) (d5 _) (by omega) (az.cons I (cz.2 ⟨M.imp id fun h=>a7.mono (by omega) (d5 _) _ h,az.nil⟩)),?_⟩,rfl⟩;rw[aQ,aw,aw,aL,aQ];omega
theorem tj(i0:Nat)(s:St)(hs:s.at_<=c.toks.length)(D:i0<=s.at_):
 cc (3*(c.toks.length-s.at_)<=g) (fun n s1=>cE c i0 s.at_ 7 n s1.at_/\n.kind=12) (dD F (ar c i0).pos c s):=uF hF hT (Fa hF hT) i0 s hs D
theorem Ga(i0:Nat)(s:St)(hs:s.at_<=c.toks.length)(D:i0<=s.at_):
 cc (3*(c.toks.length-s.at_)<=g) (fun n s1=>cE c i0 s.at_ 7 n s1.at_/\n.kind=12) (oR F (ar c i0).pos c s):=uF hF hT (DQ hF hT) i0 s hs D
theorem Pw(s:St)(hs:s.at_<=c.toks.length):cc (3*(c.toks.length-s.at_)+1<=g+1) (fun n s1=>cE c s.at_ s.at_ 7 n s1.at_/\(n.kind=10\/n.kind=11\/n.kind=12)/\(aP c s ⟨#[91]⟩=true->n.kind≠10)) (wG F c s):=by
 have _:=hs;unfold wG;refine cc.ite (fun J=>?_) (fun _=>cc.ite (fun J=>?_) (fun _=>cc.ite (fun J=>?_) (fun _=>?_)))
 ·have D:=bM J;generalize adv s=s0 at D |-;have e0:=D.1;have N:=D.2;refine(hF.typ s0 D.2).bind (fun h=>by omega) fun n s1 h=>?_;refine(ei (b:=True) _ s1).bind (fun _=>trivial) fun _ s2 M=>?_;have e2:=M.1;have U:=h.1.lt;have:=h.1.cnt;exact⟨⟨by omega,M.2,a7.mono (by omega) (by omega) _ h.1.ok,by omega⟩,h.2.1,fun hb=>absurd (DO J hb) (by decide)⟩
 ·have D:=bM J;generalize adv s=s0 at D |-;have e0:=D.1;have N:=D.2;refine(ei (b:=True) _ s0).bind (fun _=>trivial) fun _ s1 I=>?_;have U:=I.1;have O:=I.2;refine(hF.typ s1 I.2).bind (fun h=>by omega) fun n s2 h=>?_;have h:=h.1;have e2:=h.lt;have:=h.cnt;refine⟨⟨by omega,h.le,a7.make s.at_ (by show(0:Nat)<=_;omega) (by decide) (d5 _) (by omega) (az.cons (a7.mono (by omega) (d5 _) _ h.ok) az.nil),?_⟩,.inr (.inl rfl),fun _=>by show(11:Int)≠10;decide⟩;rw[aQ,aw,aL];omega
 ·have D:=bM J;generalize adv s=s0 at D |-;have e0:=D.1;have N:=D.2;refine(tj hF hT s.at_ s0 D.2 (by omega)).mono (fun h=>by omega) fun n s1 h=>?_;have U:=h.1.lt;have:=h.1.cnt;exact⟨⟨by omega,h.1.le,h.1.ok,by omega⟩,.inr (.inr h.2),fun hb=>absurd (DO J hb) (by decide)⟩
 ·refine(Iv (b:=True) hT s).bind (fun _=>trivial) fun x s1 I=>?_;have U:=I.1.1;have O:=I.1.2.1;refine cc.ite (fun J=>?_) (fun _=>?_)
  ·have D:=bM (show aP c s1 ⟨#[91]⟩=true by rw[gB]at J;exact J.1);generalize adv s1=s0 at D |-;have e0:=D.1;have N:=D.2;rw[hF.hg];refine(oH (i0:=s.at_) (lo:=s0.at_) (b:=3*(c.toks.length-s0.at_)+1<=g) (fun s' hlo hs'=>(hF.typ s' hs').mono (fun h=>by omega) fun _ _ h=>⟨h.1.lt,h.1.le,h.1.ok,by have:=h.1.cnt;omega⟩) g 0 [] s0 (d5 _) (by omega) D.2 az.nil (by rw[aL];omega)).bind (fun h=>⟨by omega,by omega⟩) fun l s2 M=>?_;have e2:=M.lt;have e3:=M.cnt;refine cc.ite (fun _=>trivial) (fun _=>?_);refine⟨⟨by omega,M.le,a7.make s.at_ (jB I.2 (by decide)) (by decide) (d5 _) (by omega) M.ok,?_⟩,.inl rfl,fun hb=>absurd hb (DP I.1.2.2 _)⟩;rw[aQ];omega
  ·refine⟨⟨by omega,I.1.2.1,a7.make s.at_ (jB I.2 (by decide)) (by decide) (d5 _) (by omega) az.nil,?_⟩,.inl rfl,fun hb=>absurd hb (DP I.1.2.2 _)⟩;rw[aQ,aL];omega
theorem DR(s:St)(hs:s.at_<=c.toks.length):cc (3*(c.toks.length-s.at_)+1<=g) (fun n s1=>cE c s.at_ s.at_ 6 n s1.at_/\∃k,n.kids=[k]) (lU F c s):=by
 have _:=hT;unfold lU;refine cc.ite (fun I=>?_) (fun _=>?_)
 ·have D:=bM I;generalize adv s=s0 at D |-;have N:=D.1;have M:=D.2;refine(hF.typ s0 D.2).bind (fun h=>by omega) fun n s1 h=>?_;have h:=h.1;have J:=h.lt;have:=h.cnt;refine⟨⟨by omega,h.le,a7.make s.at_ (by show(1:Nat)<=_;omega) (by decide) (d5 _) (by omega) (az.cons (a7.mono (by omega) (d5 _) _ h.ok) az.nil),?_⟩,n,rfl⟩;rw[aQ,aw,aL];omega
 ·refine(hF.typ s hs).bind id fun n s1 h=>?_;have h:=h.1;have J:=h.lt;have:=h.cnt;refine⟨⟨by omega,h.le,a7.make s.at_ (by show(0:Nat)<=_;omega) (by decide) (d5 _) (by omega) (az.cons h.ok az.nil),?_⟩,n,rfl⟩;rw[aQ,aw,aL];omega
theorem uG(i0 C:Nat)(M:i0<=C):∀(f:Nat)(acc:List Nd)(s:St),s.at_<=c.toks.length->az c i0 s.at_ acc->lw acc+6<=8*(s.at_-C) ->
  cc (3*(c.toks.length-s.at_)+1<=g/\c.toks.length-s.at_<f) (fun n s1=>cE c i0 C 5 n s1.at_) (eH F (ar c i0).pos f acc c s)
 |0,_,_,_,_,_=>fun h=>absurd h.2 (by omega)
 |f+1,acc,s,N,I,U=>by
  unfold eH;refine cc.ite (fun J=>?_) (fun _=>?_)
  ·have D:=bM J;generalize adv s=s0 at D |-;have e0:=D.1;have O:=D.2;refine(DR hF hT s0 D.2).bind (fun h=>by omega) fun n s1 h=>?_;have h:=h.1;have e1:=h.lt;have e2:=h.cnt;exact(uG i0 C M f (acc++[n]) s1 h.le ((az.mono (d5 _) (by omega) _ I).app (az.cons (a7.mono (by omega) (d5 _) _ h.ok) az.nil)) (by rw[lr,aw,aL];omega)).mono (fun h=>⟨by omega,by omega⟩) fun m s2 h'=>h'
  ·refine⟨by omega,N,a7.make i0 (by show(0:Nat)<=_;omega) (by decide) (d5 _) (by omega) I,?_⟩;rw[aQ];omega
theorem Bj(i0:Nat)(s:St)(hs:s.at_<=c.toks.length)(D:i0<=s.at_):cc (3*(c.toks.length-s.at_)+1<=g) (fun n s1=>cE c i0 s.at_ 5 n s1.at_) (eD F (ar c i0).pos c s):=by unfold eD;refine(DR hF hT s hs).bind id fun n s1 h=>?_;have h:=h.1;have J:=h.lt;have I:=h.cnt;have:=h.le;rw[hF.hg];exact(uG hF hT i0 s.at_ D g [n] s1 h.le (az.cons (a7.mono D (d5 _) _ h.ok) az.nil) (by rw[aw,aL];omega)).mono (fun h=>⟨by omega,by omega⟩) fun m s2 h'=>h'
theorem Bk(i0:Nat)(s:St)(hs:s.at_<=c.toks.length)(M:i0<=s.at_):cc (3*(c.toks.length-s.at_)<=g) (fun n s1=>cE c i0 s.at_ 5 n s1.at_) (fV F (ar c i0).pos c s):=by have _:=hs;unfold fV;refine(ei (b:=True) _ s).bind (fun _=>trivial) fun _ s1 h1=>?_;have e1:=h1.1;have I:=h1.2;refine(Bj hF hT i0 s1 h1.2 (by omega)).bind (fun h=>by omega) fun n s2 h2=>?_;have U:=h2.lt;have O:=h2.cnt;have J:=Mx s2 h2.le;refine(ei (b:=True) _ _).bind (fun _=>trivial) fun _ s3 D=>?_;have N:=D.1;exact⟨by omega,D.2,a7.mono (d5 _) (by omega) _ h2.ok,by omega⟩
omit hF hT in
theorem MA{n k:Nd}{i j sl:Nat}(h:cE c i i sl n j)(hb:rK n=some k):cE c i i sl k j:=by
 obtain⟨kk,t,l,a⟩:=n;unfold rK at hb;rw[Nd.kids_mk]at hb;cases l with
 |nil=>cases hb
 |cons x r=>cases r with
   |cons y r=>cases hb
   |nil=>
    obtain⟨kx,tx,lx,ax⟩:=x;simp only[Nd.kids_mk]at hb;cases lx with
    |nil=>cases hb
    |cons z r=>
     simp only at hb;split at hb
     ·rename_i N;injection hb with hb;subst hb;have hc:=h.cnt;rw[aQ,aw,aQ,aw]at hc;obtain⟨-,-,m,m1,m2,-,J⟩:=fS.1 h.ok;rw[cz]at J;have M:=J.1.resolve_left (fun D=>by have:=D.1;cases this);obtain⟨-,-,m',U,O,-,I⟩:=fS.1 M;rw[cz]at I;have D:=I.1.resolve_left (fun D=>by have:=D.2.2.2;rw[N.2]at this;omega);exact⟨h.lt,h.le,a7.mono (by omega) (d5 _) _ D,by omega⟩
     ·cases hb
theorem yn(s:St)(hs:s.at_<=c.toks.length):cc (3*(c.toks.length-s.at_)+1<=g) (fun n s1=>cE c s.at_ s.at_ 5 n s1.at_) (dP F c s):=by
 unfold dP;refine cc.ite (fun I=>?_) (fun _=>?_)
 ·have D:=bM I;generalize adv s=s0 at D |-;have N:=D.1;have J:=D.2;refine(Bk hF hT s.at_ s0 D.2 (by omega)).mono (fun h=>by omega) fun n s1 h=>?_;have M:=h.lt;have:=h.cnt;exact⟨by omega,h.le,h.ok,by omega⟩
 ·refine(Bj hF hT s.at_ s hs (d5 _)).bind id fun n s1 h=>?_;show cE c s.at_ s.at_ 5 ((rK n).getD n) s1.at_;cases hb:rK n with
  |none=>exact h
  |some k=>exact MA h hb
theorem AH(s:St)(hs:s.at_<=c.toks.length):cc (3*(c.toks.length-s.at_)+1<=g) (fun n s1=>cE c s.at_ s.at_ 0 n s1.at_) (dt F c s):=by have _:=hs;unfold dt;refine(mC (b:=True) hT s).bind (fun _=>trivial) fun x s0 h0=>?_;have I:=h0.1.1;refine(yn hF hT s0 h0.1.2).bind (fun h=>by omega) fun n s1 h=>?_;have D:=h.lt;refine⟨by omega,h.le,a7.make s.at_ (jB h0.2 (by decide)) (by decide) (d5 _) (by omega) (az.cons (a7.mono (by omega) (d5 _) _ h.ok) az.nil),?_⟩;rw[aQ,aw,aL];have:=h.cnt;omega
theorem yo(s:St)(hs:s.at_<=c.toks.length):cc (3*(c.toks.length-s.at_)<=g) (fun n D=>s.at_<=D.at_/\D.at_<=c.toks.length/\(rG n\/a7 c s.at_ D.at_ n)/\iM n<=1+8*(D.at_-s.at_)) (eI F c s):=by
 unfold eI;refine cc.ite (fun M=>?_) (fun _=>?_)
 ·have J:=bM (show aP c s ⟨#[91]⟩=true by rw[gB]at M;exact M.1);generalize adv s=s0 at J |-;have e0:=J.1;have N:=J.2;rw[hF.hg];refine(oH (i0:=s.at_) (lo:=s0.at_) (b:=3*(c.toks.length-s0.at_)+1<=g) (fun s' hlo hs'=>(AH hF hT s' hs').mono (fun h=>by omega) fun _ _ h=>h) g 0 [] s0 (d5 _) (by omega) J.2 az.nil (by rw[aL];omega)).bind (fun h=>⟨by omega,by omega⟩) fun l s2 I=>?_;have U:=I.lt;have O:=I.cnt;refine cc.ite (fun _=>trivial) (fun _=>?_);refine⟨by omega,I.le,.inr (a7.make s.at_ (by show(0:Nat)<=_;omega) (by decide) (d5 _) (by omega) I.ok),?_⟩;rw[aQ];omega
 ·refine⟨d5 _,hs,.inl ⟨rfl,rfl,rfl,.inr rfl⟩,?_⟩;rw[aQ,aL];omega
theorem pa(i0 C:Nat)(M:i0<=C):∀(f:Nat)(acc:List Nd)(s:St),s.at_<=c.toks.length->az c i0 s.at_ acc->lw acc<=8*(s.at_-C)->C<=s.at_ ->
  cc (3*(c.toks.length-s.at_)<=g/\c.toks.length-s.at_<f) (fun n s1=>cE c i0 C 7 n s1.at_) (cP F (ar c i0).pos f acc c s)
 |0,_,_,_,_,_,_=>fun h=>absurd h.2 (by omega)
 |f+1,acc,s,h2,N,h4,h5=>by
  unfold cP;refine cc.ite (fun J=>?_) (fun _=>?_)
  ·have D:=bM J;have e0:=D.1;refine⟨by omega,D.2,a7.make i0 (by show(0:Nat)<=_;omega) (by decide) (d5 _) (by omega) (az.mono (d5 _) (by omega) _ N),?_⟩;rw[aQ];omega
  ·refine(mC (b:=True) hT s).bind (fun _=>trivial) fun x s1 h1=>?_;have e1:=h1.1.1;have U:=h1.1.2;refine(hF.typ s1 h1.1.2).bind (fun h=>by omega) fun n s2 h=>?_;have h:=h.1;have e2:=h.lt;have e3:=h.cnt;have I:az c i0 s2.at_ (acc++[.mk 9 x [n] (av c s)]):=(az.mono (d5 _) (by omega) _ N).app (az.cons (a7.make s.at_ (jB h1.2 (by decide)) (by decide) (by omega) (by omega) (az.cons (a7.mono (by omega) (d5 _) _ h.ok) az.nil)) az.nil);(have O:lw (acc++[.mk 9 x [n] (av c s)])=lw acc+iM n+1:=by rw[lr,aw,aL,aQ,aw,aL];omega);refine cc.ite (fun J=>?_) (fun _=>cc.ite (fun _=>?_) fun _=>trivial)
   ·have D:=nT (pY J);generalize adv s2=s0 at D |-;have e4:=D.1;have e5:=D.2;exact(pa i0 C M f _ s0 D.2 (az.mono (d5 _) (by omega) _ I) (by omega) (by omega)).mono (fun h=>⟨by omega,by omega⟩) fun m s2 h'=>h'
   ·exact(pa i0 C M f _ s2 h.le I (by omega) (by omega)).mono (fun h=>⟨by omega,by omega⟩) fun m s2 h'=>h'
theorem Fb(i0:Nat)(s:St)(hs:s.at_<=c.toks.length)(D:i0<=s.at_):cc (3*(c.toks.length-s.at_)<=g) (fun n s1=>cE c i0 s.at_ 7 n s1.at_) (ip F (ar c i0).pos c s):=by have _:=hs;unfold ip;refine(ei (b:=True) _ s).bind (fun _=>trivial) fun _ s1 h1=>?_;have J:=h1.1;have I:=h1.2;rw[hF.hg];exact(pa hF hT i0 s.at_ D g [] s1 h1.2 az.nil (by rw[aL];omega) (by omega)).mono (fun h=>⟨by omega,by omega⟩) fun m s2 h'=>h'
theorem tm(s:St)(hs:s.at_<=c.toks.length):cc (3*(c.toks.length-s.at_)<=g) (fun n s1=>cE c s.at_ s.at_ 6 n s1.at_) (dW F c s):=by
 have _:=hs;unfold dW;refine(ei (b:=True) _ s).bind (fun _=>trivial) fun _ s1 h1=>?_;have e1:=h1.1;have ga:=h1.2;refine(mC (b:=True) hT s1).bind (fun _=>trivial) fun x s2 h2=>?_;have e2:=h2.1.1;have U:=h2.1.2;refine cc.ite (fun I=>?_) (fun _=>?_)
 ·have D:=bM I;generalize adv s2=s0 at D |-;have e3:=D.1;have O:=D.2;refine(hF.expr s0 D.2).bind (fun h=>by omega) fun n s3 h=>?_;have h:=h.1;have N:=h.lt;have M:=h.cnt;refine⟨by omega,h.le,a7.make s.at_ (jB h2.2 (by decide)) (by decide) (d5 _) (by omega) (az.consZ ii (az.cons (a7.mono (by omega) (d5 _) _ h.ok) az.nil)),?_⟩;rw[aQ,aw,aw,aL,mB];omega
 ·refine(hF.typ s2 h2.1.2).bind (fun h=>by omega) fun t s3 h=>?_;have h:=h.1;have N:=h.lt;have M:=h.cnt;refine cc.ite (fun I=>?_) (fun _=>?_)
  ·have D:=bM I;generalize adv s3=s0 at D |-;have e6:=D.1;have J:=D.2;refine(hF.expr s0 D.2).bind (fun h=>by omega) fun n s4 h'=>?_;have h':=h'.1;have e7:=h'.lt;have e8:=h'.cnt;refine⟨by omega,h'.le,a7.make s.at_ (jB h2.2 (by decide)) (by decide) (d5 _) (by omega) (az.cons (a7.mono (by omega) (by omega) _ h.ok) (az.cons (a7.mono (by omega) (d5 _) _ h'.ok) az.nil)),?_⟩;rw[aQ,aw,aw,aL];omega
  ·refine⟨by omega,h.le,a7.make s.at_ (jB h2.2 (by decide)) (by decide) (d5 _) (by omega) (az.cons (a7.mono (by omega) (by omega) _ h.ok) (az.consZ ii az.nil)),?_⟩;rw[aQ,aw,aw,aL,mB];omega
end
section
variable {c:Cx} {i i' j j' m:Nat}
theorem a7.make'{k t l a}(m:Nat)(O:a=(ar c m).pos)(D:t.size<=1000000000)(J:k≠22)(N:i<=m)(M:m<j)(I:az c m j l):a7 c i j (.mk k t l a):=
 fS.2 ⟨D,fun h=>absurd h J,m,N,M,O,I⟩
theorem a7.self{n:Nd}(h:a7 c i j n):∃m,i<=m/\m<j/\n.pos=(ar c m).pos/\a7 c m j n:=by obtain⟨k,t,l,a⟩:=n;obtain⟨O,N,m,M,I,D,J⟩:=fS.1 h;exact⟨m,M,I,D,fS.2 ⟨O,N,m,d5 _,I,D,J⟩⟩
theorem yp{α:Type}{b:Prop}{P:α->Nat->Prop}{part:R α}(s:St)(h:cc b (fun a s1=>P a s1.at_) (part c { s with head:=false })):cc b (fun a s1=>P a s1.at_) (ce part c s):=by unfold ce;exact h.bind id fun a s1 h=>h
theorem yq{α:Type}{b:Prop}{P:α->Nat->Prop}{part:R α}(s:St)(h:cc b (fun a s1=>P a s1.at_) (part c { s with head:=true })):cc b (fun a s1=>P a s1.at_) (cZ part c s):=by unfold cZ;exact h.bind id fun a s1 h=>h
mutual
theorem tY{i j:Nat}:∀n t:Nd,bJ n=some t->a7 c i j n->a7 c i j t/\t.pos=n.pos/\(t.kind=10\/t.kind=11\/t.kind=12)/\iM t<=iM n
 | .mk k x l a,t,h,U=>by
  unfold bJ at h;split at h
  ·rename_i hk;injection h with h;subst h;exact⟨U,rfl,hk,d5 _⟩
  ·split at h
   ·injection h with h;subst h;obtain⟨h1,h2,m,h3,h4,h5,M⟩:=fS.1 U;refine⟨a7.make' m h5 h1 (by decide) h3 h4 az.nil,rfl,.inl rfl,?_⟩;rw[aQ,aQ,aL];omega
   ·split at h
    ·rename_i hk;obtain⟨h1,h2,m,h3,h4,h5,M⟩:=fS.1 U;obtain⟨y,r,rfl,-,-,I⟩:=h2 hk;rw[cz]at M;simp only at h;cases D:bJ y with
     |none=>rw[D]at h;cases h
     |some z=>
      obtain⟨k2,t2,l2,a2⟩:=z;rw[D]at h;simp only at h;split at h
      ·rename_i ga;cases O:cJ r with
       |none=>rw[O]at h;cases h
       |some r'=>rw[O]at h;injection h with h;subst h;have N:a7 c m j y:=M.1.resolve_left (fun hz=>by obtain⟨ky,ty,ly,ay⟩:=y;have gb:ky=0\/ky=6:=hz.2.2.2;unfold bJ at D;rw[gA (by omega),gA (by omega),gA (by omega)]at D;cases D);obtain⟨q1,q2,q3,q4⟩:=tY y _ D N;obtain⟨q5,q6⟩:=yr r r' O M.2;(have J:a2=a:=by have:a2=y.pos:=q2;rw[this,I]);obtain⟨w1,-,-⟩:=fS.1 q1;refine⟨a7.make' m (J.trans h5) w1 (by rw[ga.1];decide) h3 h4 q5,J,q3,?_⟩;rw[aQ,aQ,aw];omega
      ·cases h
    ·cases h
theorem yr{i j:Nat}:∀l l':List Nd,cJ l=some l'->az c i j l->az c i j l'/\lw l'<=lw l
 |[],l',h,_=>by unfold cJ at h;injection h with h;subst h;exact⟨az.nil,d5 _⟩
 |x::r,l',h,M=>by
  rw[cz]at M;unfold cJ at h;cases D:bJ x with
  |none=>rw[D]at h;cases h
  |some y=>
   rw[D]at h;simp only at h;cases J:cJ r with
   |none=>rw[J]at h;cases h
   |some r'=>rw[J]at h;injection h with h;subst h;have I:a7 c i j x:=M.1.resolve_left (fun hz=>by obtain⟨ky,ty,ly,ay⟩:=x;have U:ky=0\/ky=6:=hz.2.2.2;unfold bJ at D;rw[gA (by omega),gA (by omega),gA (by omega)]at D;cases D);obtain⟨O,q2,q3,q4⟩:=tY x _ D I;obtain⟨N,q6⟩:=yr r r' J M.2;exact⟨az.cons O N,by rw[aw,aw];omega⟩
end
end
section
variable {c:Cx} {g:Nat} {F:fJ} (hF:Mz c g F) (hT:uQ c)
include hF hT
theorem B8(i0:Nat)(s:St)(hs:s.at_<=c.toks.length)(hi:i0<s.at_):cc (3*(c.toks.length-s.at_)<=g) (fun n s1=>cE c i0 s.at_ 0 n s1.at_) (iq F (ar c i0).pos c s):=by
 have _:=hs;unfold iq;refine(mC (b:=True) hT s).bind (fun _=>trivial) fun x s1 h1=>?_;have e1:=h1.1.1;have ga:=h1.1.2;refine(yo hF hT s1 h1.1.2).bind (fun h=>by omega) fun ps J h2=>?_;obtain⟨e2,e3,e4,e5⟩:=h2;(have key:∀(k:Int)(U:k≠22)(t:Nd)(I:St)(lo:Nat),J.at_<=lo->cE c J.at_ lo 5 t I.at_->cE c i0 s.at_ 0 (.mk k x [ps,t] (ar c i0).pos) I.at_:=by intro k U t I lo hlo h;have O:=h.lt;have e7:=h.cnt;refine⟨by omega,h.le,a7.make i0 (jB h1.2 (by decide)) U (d5 _) (by omega) (cz.2 ⟨e4.imp id fun h=>a7.mono (by omega) (by omega) _ h,az.cons (a7.mono (by omega) (d5 _) _ h.ok) az.nil⟩),?_⟩;rw[aQ,aw,aw,aL];omega);refine cc.ite (fun M=>?_) (fun _=>cc.ite (fun M=>?_) (fun _=>cc.ite (fun M=>?_) (fun _=>?_)))
 ·have D:=bM M;generalize adv J=s0 at D |-;have O:=D.1;have N:=D.2;refine(hF.typ s0 D.2).bind (fun h=>by omega) fun t I h=>?_;exact key 4 (by decide) t I s0.at_ (by omega) ⟨h.1.lt,h.1.le,a7.mono (by omega) (d5 _) _ h.1.ok,by have:=h.1.cnt;omega⟩
 ·have D:=bM M;generalize adv J=s0 at D |-;have O:=D.1;have N:=D.2;refine(Fb hF hT J.at_ s0 D.2 (by omega)).bind (fun h=>by omega) fun t I h=>?_;exact key 3 (by decide) t I s0.at_ (by omega) ⟨h.lt,h.le,h.ok,by have:=h.cnt;omega⟩
 ·have D:=bM M;generalize adv J=s0 at D |-;have O:=D.1;have N:=D.2;refine(Bk hF hT J.at_ s0 D.2 (by omega)).bind (fun h=>by omega) fun t I h=>?_;exact key 3 (by decide) t I s0.at_ (by omega) ⟨h.lt,h.le,h.ok,by have:=h.cnt;omega⟩
 ·refine(hF.typ J e3).bind (fun h=>by omega) fun t I h=>?_;exact key 3 (by decide) t I J.at_ (by omega) ⟨h.1.lt,h.1.le,h.1.ok,by have:=h.1.cnt;omega⟩
theorem nU(i0 C:Nat)(M:i0<=C):∀(f:Nat)(acc:List Nd)(s:St),s.at_<=c.toks.length->az c i0 s.at_ acc->lw acc<=8*(s.at_-C)->C<=s.at_ ->
  cc (3*(c.toks.length-s.at_)+3<=g/\c.toks.length-s.at_<f) (fun n s1=>cE c i0 C 7 n s1.at_) (dh F (ar c i0).pos f acc c s)
 |0,_,_,_,_,_,_=>fun h=>absurd h.2 (by omega)
 |f+1,acc,s,U,N,h4,h5=>by
  have _:=hT;unfold dh;refine cc.ite (fun J=>?_) (fun _=>cc.ite (fun J=>?_) (fun _=>?_))
  ·have D:=bM J;have e0:=D.1;refine⟨by omega,D.2,a7.make i0 (by show(0:Nat)<=_;omega) (by decide) (d5 _) (by omega) (az.mono (d5 _) (by omega) _ N),?_⟩;rw[aQ];omega
  ·have D:=nT (pY J);generalize adv s=s0 at D |-;have e0:=D.1;have ga:=D.2;exact(nU i0 C M f acc s0 D.2 (az.mono (d5 _) (by omega) _ N) (by omega) (by omega)).mono (fun h=>⟨by omega,by omega⟩) fun m s2 h'=>h'
  ·refine(hF.stmt s U).bind (fun h=>by omega) fun n s2 h=>?_;have e2:=h.lt;have e3:=h.cnt;have I:az c i0 s2.at_ (acc++[n]):=(az.mono (d5 _) (by omega) _ N).app (az.cons (a7.mono (by omega) (d5 _) _ h.ok) az.nil);(have O:lw (acc++[n])=lw acc+iM n:=by rw[lr,aw,aL];omega);refine cc.ite (fun J=>?_) (fun _=>cc.ite (fun _=>?_) fun _=>trivial)
   ·have D:=nT (pY J);generalize adv s2=s0 at D |-;have e4:=D.1;have e5:=D.2;exact(nU i0 C M f _ s0 D.2 (az.mono (d5 _) (by omega) _ I) (by omega) (by omega)).mono (fun h=>⟨by omega,by omega⟩) fun m s2 h'=>h'
   ·have:=h.le;exact(nU i0 C M f _ s2 h.le I (by omega) (by omega)).mono (fun h=>⟨by omega,by omega⟩) fun m s2 h'=>h'
theorem mb(s:St)(hs:s.at_<=c.toks.length):cc (3*(c.toks.length-s.at_)<=g) (fun n D=>cE c s.at_ s.at_ 7 n D.at_) (bE F c s):=by have _:=hs;unfold bE;refine yp (P:=fun n k=>cE c s.at_ s.at_ 7 n k) s ?_;unfold mO;refine(ei (b:=True) _ _).bind (fun _=>trivial) fun _ D h1=>?_;have J:D.at_=s.at_+1:=h1.1;have I:=h1.2;rw[hF.hg];exact(nU hF hT s.at_ s.at_ (d5 _) g [] D h1.2 az.nil (by rw[aL];omega) (by omega)).mono (fun h=>⟨by omega,by omega⟩) fun m s2 h'=>h'
theorem MB(s:St)(hs:s.at_<=c.toks.length):cc (3*(c.toks.length-s.at_)<=g) (fun n s1=>cE c s.at_ s.at_ 0 n s1.at_) (fN F c s):=by
 unfold fN;refine cc.ite (fun J=>?_) (fun _=>cc.ite (fun J=>?_) (fun _=>?_))
 ·have D:=bM J;generalize adv s=s0 at D |-;have e0:=D.1;have M:=D.2;refine(mC (b:=True) hT s0).bind (fun _=>trivial) fun x s1 h1=>?_;have e1:=h1.1.1;have ga:=h1.1.2;refine(yo hF hT s1 h1.1.2).bind (fun h=>by omega) fun ps s2 h2=>?_;obtain⟨N,U,O,e5⟩:=h2;refine(Ga hF hT s.at_ s2 U (by omega)).bind (fun h=>by omega) fun sg s3 h3=>?_;have e6:=h3.1.lt;have e7:=h3.1.cnt;refine(mb hF hT s3 h3.1.le).bind (fun h=>by omega) fun b s4 I=>?_;have e8:=I.lt;have e9:=I.cnt;refine⟨by omega,I.le,a7.make s.at_ (jB h1.2 (by decide)) (by decide) (d5 _) (by omega) (cz.2 ⟨O.imp id fun h=>a7.mono (by omega) (by omega) _ h,az.cons (a7.mono (d5 _) (by omega) _ h3.1.ok) (az.cons (a7.mono (by omega) (d5 _) _ I.ok) az.nil)⟩),?_⟩;rw[aQ,aw,aw,aw,aL];omega
 ·have D:=bM J;generalize adv s=s0 at D |-;have e0:=D.1;have M:=D.2;refine(B8 hF hT s.at_ s0 D.2 (by omega)).mono (fun h=>by omega) fun n s1 h=>?_;have e1:=h.lt;have N:=h.cnt;exact⟨by omega,h.le,h.ok,by omega⟩
 ·refine(tm hF hT s hs).mono id fun n s1 h=>?_;have N:=h.cnt;exact⟨h.lt,h.le,h.ok,by omega⟩
theorem DS(i0:Nat)(x:Nd)(s:St)(I:cE c i0 i0 7 x s.at_):cc (3*(c.toks.length-s.at_)<=g) (fun n s1=>cE c i0 i0 6 n s1.at_) (fW F (ar c i0).pos x c s):=by
 have _:=hT;have x1:=I.lt;have x2:=I.cnt;have x3:=I.le;unfold fW;refine cc.ite (fun J=>?_) (fun _=>cc.ite (fun J=>?_) (fun _=>cc.ite (fun J=>?_) (fun _=>cc.ite (fun J=>?_) (fun _=>cc.ite (fun J=>?_) (fun _=>trivial)))))
 ·have D:=bM J.2.2;generalize adv s=s0 at D |-;have N:=D.1;have M:=D.2;refine(hF.expr s0 D.2).bind (fun h=>by omega) fun v s1 h=>?_;have h:=h.1;have U:=h.lt;have O:=h.cnt;(obtain⟨xt,-⟩:x.text.size<=1000000000/\True:=by obtain⟨k,t,l,a⟩:=x;exact⟨(fS.1 I.ok).1,trivial⟩);refine⟨by omega,h.le,a7.make i0 xt (by decide) (d5 _) (by omega) (az.cons (a7.mono (by omega) (d5 _) _ h.ok) az.nil),?_⟩;rw[aQ,aw,aL];omega
 ·have D:=bM J;generalize adv s=s0 at D |-;have N:=D.1;have M:=D.2;refine(hF.expr s0 D.2).bind (fun h=>by omega) fun v s1 h=>?_;have h:=h.1;have U:=h.lt;have O:=h.cnt;refine⟨by omega,h.le,a7.make i0 (by show(0:Nat)<=_;omega) (by decide) (d5 _) (by omega) (az.cons (a7.mono (d5 _) (by omega) _ I.ok) (az.cons (a7.mono (by omega) (d5 _) _ h.ok) az.nil)),?_⟩;rw[aQ,aw,aw,aL];omega
 ·have D:=bM J;generalize adv s=s0 at D |-;have N:=D.1;have M:=D.2;refine⟨by omega,D.2,a7.make i0 (by show(2:Nat)<=_;omega) (by decide) (d5 _) (by omega) (az.cons (a7.mono (d5 _) (by omega) _ I.ok) az.nil),?_⟩;rw[aQ,aw,aL];omega
 ·have D:=bM J;generalize adv s=s0 at D |-;have N:=D.1;have M:=D.2;refine⟨by omega,D.2,a7.make i0 (by show(2:Nat)<=_;omega) (by decide) (d5 _) (by omega) (az.cons (a7.mono (d5 _) (by omega) _ I.ok) az.nil),?_⟩;rw[aQ,aw,aL];omega
 ·refine⟨by omega,I.le,a7.make i0 (by show(0:Nat)<=_;omega) (by decide) (d5 _) (by omega) (az.cons I.ok az.nil),?_⟩;rw[aQ,aw,aL];omega
theorem yt(s:St)(hs:s.at_<=c.toks.length):cc (3*(c.toks.length-s.at_)+2<=g) (fun n s1=>cE c s.at_ s.at_ 6 n s1.at_) (fO F c s):=by unfold fO;refine(hF.expr s hs).bind id fun x s1 h=>?_;have D:=h.1.lt;exact(DS hF hT s.at_ x s1 h.1).mono (fun h=>by omega) fun _ _ h=>h
theorem tZ(s:St)(hs:s.at_<=c.toks.length):cc (3*(c.toks.length-s.at_)+2<=g) (fun n s1=>cE c s.at_ s.at_ 7 n s1.at_) (cZ F.expr c s):=have _:=hT
 yq (P:=fun n k=>cE c s.at_ s.at_ 7 n k) s ((hF.expr { s with head:=true } hs).mono id fun _ _ h=>h.1)
theorem Iw(s:St)(hs:s.at_<=c.toks.length):cc (3*(c.toks.length-s.at_)+2<=g) (fun n s1=>cE c s.at_ s.at_ 7 n s1.at_/\n.kind≠10/\n.kind<26) (ce F.expr c s):=have _:=hT
 yp (P:=fun n k=>cE c s.at_ s.at_ 7 n k/\n.kind≠10/\n.kind<26) s (hF.expr _ hs)
theorem MC(s:St)(hs:s.at_<=c.toks.length):cc (3*(c.toks.length-s.at_)<=g) (fun n s1=>cE c s.at_ s.at_ 6 n s1.at_) (GO F c s):=by
 have _:=hs;unfold GO;refine(ei (b:=True) _ s).bind (fun _=>trivial) fun _ s1 h1=>?_;have e1:=h1.1;have ga:=h1.2;refine(tZ hF hT s1 h1.2).bind (fun h=>by omega) fun x s2 h2=>?_;have e2:=h2.lt;have e3:=h2.cnt;refine(mb hF hT s2 h2.le).bind (fun h=>by omega) fun b M I=>?_;have e4:=I.lt;have e5:=I.cnt;(have key:∀(o:Nd)(D:St)(lo:Nat),M.at_<=lo->cE c lo lo 6 o D.at_->cE c s.at_ s.at_ 6 (.mk 30 ⟨#[]⟩ [x,b,o] (av c s)) D.at_:=by intro o D lo hlo h;have U:=h.lt;have e7:=h.cnt;refine⟨by omega,h.le,a7.make s.at_ (by show(0:Nat)<=_;omega) (by decide) (d5 _) (by omega) (az.cons (a7.mono (by omega) (by omega) _ h2.ok) (az.cons (a7.mono (by omega) (by omega) _ I.ok) (az.cons (a7.mono (by omega) (d5 _) _ h.ok) az.nil))),?_⟩;rw[aQ,aw,aw,aw,aL];omega);refine cc.ite (fun N=>?_) (fun _=>?_)
 ·have J:=bM N;generalize adv M=s0 at J |-;have U:=J.1;have O:=J.2;refine cc.ite (fun _=>?_) (fun _=>?_)
  ·exact(hF.ifS s0 J.2).bind (fun h=>by omega) fun o D h=>key o D s0.at_ (by omega) h
  ·exact(mb hF hT s0 J.2).bind (fun h=>by omega) fun o D h=>key o D s0.at_ (by omega) ⟨h.lt,h.le,h.ok,by have:=h.cnt;omega⟩
 ·refine⟨by omega,I.le,a7.make s.at_ (by show(0:Nat)<=_;omega) (by decide) (d5 _) (by omega) (az.cons (a7.mono (by omega) (by omega) _ h2.ok) (az.cons (a7.mono (by omega) (by omega) _ I.ok) (az.consZ ii az.nil))),?_⟩;rw[aQ,aw,aw,aw,aL,mB];omega
theorem Fc(s:St)(hs:s.at_<=c.toks.length):cc (3*(c.toks.length-s.at_)+2<=g) (fun n s1=>cE c s.at_ s.at_ 6 n s1.at_) (eW F c s):=by
 unfold eW;refine(hF.expr s hs).bind id fun x s1 h=>?_;have I:=h.1.lt;have D:=h.1.cnt;refine cc.ite (fun _=>?_) (fun _=>?_)
 ·exact⟨h.1.lt,h.1.le,h.1.ok,by omega⟩
 ·exact(DS hF hT s.at_ x s1 h.1).mono (fun h=>by omega) fun _ _ h=>h
theorem MD(s:St)(hs:s.at_<=c.toks.length):cc (3*(c.toks.length-s.at_)+2<=g) (fun n s1=>cE c s.at_ s.at_ 6 n s1.at_) (mJ F c s):=by unfold mJ;exact(yt hF hT s hs).bind id fun x s1 h=>cc.ite (fun _=>trivial) fun _=>h
def rH(c:Cx)(i:Nat)(n:Nd)(j:Nat):Prop:=i<=j/\j<=c.toks.length/\(rG n\/a7 c i j n)/\iM n<=1+8*(j-i)
omit hF hT in
theorem rH.zero{i:Nat}(h:i<=c.toks.length):rH c i bU i:=⟨d5 _,h,.inl ii,by rw[mB];omega⟩
omit hF hT in
theorem rH.fine{i j sl:Nat}{n:Nd}(h:cE c i i sl n j):rH c i n j:=⟨jN h.lt,h.le,.inr h.ok,by have:=h.cnt;omega⟩
omit hF hT in
theorem rH.mono{i i' j j':Nat}{n:Nd}(h:rH c i n j)(I:i'<=i)(D:j<=j'):rG n\/a7 c i' j' n:=h.2.2.1.imp id fun h=>a7.mono I D _ h
def ME(c:Cx)(i:Nat)(h:Nd×Nd×Nd)(j:Nat):Prop:=i<=j/\j<=c.toks.length/\(rG h.1\/a7 c i j h.1)/\(rG h.2.1\/a7 c i j h.2.1)/\(rG h.2.2\/a7 c i j h.2.2)/\iM h.1+iM h.2.1+iM h.2.2<=3+8*(j-i)
theorem MF(s:St)(hs:s.at_<=c.toks.length):cc (3*(c.toks.length-s.at_)+2<=g) (fun h s1=>ME c s.at_ h s1.at_) (nK F c s):=by
 have tail:∀(a:Nd)(t:St),rH c s.at_ a t.at_->cc (3*(c.toks.length-s.at_)+2<=g) (fun h s1=>ME c s.at_ h s1.at_)
   ((need ⟨#[59]⟩ c t).bind fun _ s1=>(if aP c s1 ⟨#[59]⟩then .ok bU s1 else cZ F.expr c s1).bind fun b s2=>(need ⟨#[59]⟩ c s2).bind fun _ s3=>(if aP c s3 ⟨#[123]⟩then .ok bU s3 else cZ (mJ F) c s3).bind fun d s4=>.ok (a,b,d) s4):=by intro a t I;have a1:=I.1;have a2:=I.2.2.2;refine(ei (b:=True) _ t).bind (fun _=>trivial) fun _ s1 h1=>?_;have O:=h1.1;have N:=h1.2;refine cc.bind (b':=3*(c.toks.length-s1.at_)+2<=g) (Q:=fun n s2=>rH c s1.at_ n s2.at_) (cc.ite (fun _=>rH.zero h1.2) fun _=>(tZ hF hT s1 h1.2).mono id fun _ _ h=>rH.fine h) (fun h=>by omega) fun b s2 J=>?_;have b1:=J.1;have b2:=J.2.2.2;refine(ei (b:=True) _ s2).bind (fun _=>trivial) fun _ s3 h3=>?_;have U:=h3.1;have M:=h3.2;refine cc.bind (b':=3*(c.toks.length-s3.at_)+2<=g) (Q:=fun n s4=>rH c s3.at_ n s4.at_) (cc.ite (fun _=>rH.zero h3.2) fun _=>yq (P:=fun n k=>rH c s3.at_ n k) s3 ((MD hF hT { s3 with head:=true } h3.2).mono id fun _ _ h=>rH.fine h)) (fun h=>by omega) fun d s4 D=>?_;have d1:=D.1;have d2:=D.2.2.2;exact⟨by omega,D.2.1,I.mono (d5 _) (by omega),J.mono (by omega) (by omega),D.mono (by omega) (d5 _),by show iM a+iM b+iM d<=_;omega⟩
 unfold nK;refine cc.ite (fun _=>?_) (fun _=>?_)
 ·exact tail bU s (rH.zero hs)
 ·refine(yq (P:=fun n k=>cE c s.at_ s.at_ 6 n k) s (Fc hF hT { s with head:=true } hs)).bind id fun x s1 h=>?_;have O:=h.lt;have e2:=h.cnt;refine cc.ite (fun _=>trivial) (fun _=>cc.ite (fun _=>?_) (fun _=>tail x s1 (rH.fine h)));exact⟨by omega,h.le,.inl ii,.inr h.ok,.inl ii,by show iM bU+iM x+iM bU<=_;rw[mB];omega⟩
omit hF in
theorem Iy{s s':St}{x:ByteArray}(h:bI c s=some (x,s')):s.at_<s'.at_/\s'.at_<=c.toks.length/\x.size<=1000000000:=by
 refine⟨?_,hT.rg _ _ _ h,?_⟩
 ·unfold bI at h;simp only at h;split at h
  ·injection h with h;injection h with _ h;subst h;exact qd _
  ·split at h
   ·split at h
    ·injection h with h;injection h with _ h;subst h;show s.at_<s.at_+3;omega
    ·split at h
     ·injection h with h;injection h with _ h;subst h;show s.at_<s.at_+5;omega
     ·cases h
   ·cases h
 ·unfold bI at h;simp only at h;split at h
  ·injection h with h;injection h with h _;subst h;show(0:Nat)<=_;omega
  ·split at h
   ·rename_i a b d r hl;have I:∀t,t∈[a,b,d]->t.text.size<=65536:=fun t D=>hT.txt t (qR (i:=s.at_) (by rw[hl];simp at D |-;rcases D with rfl|rfl|rfl<;>simp));have J:=I a (by simp);have hd:=I d (by simp);split at h
    ·injection h with h;injection h with h _;subst h;omega
    ·split at h
     ·injection h with h;injection h with h _;subst h;simp only[gD];have:((⟨#[44]⟩:BA):ByteArray).size=1:=rfl;omega
     ·cases h
   ·cases h
theorem Px(s:St)(hs:s.at_<=c.toks.length):cc (3*(c.toks.length-s.at_)<=g) (fun n s1=>cE c s.at_ s.at_ 6 n s1.at_) (rV F c s):=by
 have _:=hs;unfold rV;refine(ei (b:=True) _ s).bind (fun _=>trivial) fun _ s1 M=>?_;have e1:=M.1;have ga:=M.2;cases hr:bI c s1 with
 |some p=>obtain⟨x,D⟩:=p;obtain⟨q1,O,N⟩:=Iy hT hr;show cc _ _ ((cZ F.expr c D).bind fun e s3=>(bE F c s3).bind fun b s4=>.ok (Nd.mk 32 x [e,b] (av c s)) s4);refine(tZ hF hT D O).bind (fun h=>by omega) fun x s3 I=>?_;have e2:=I.lt;have e3:=I.cnt;refine(mb hF hT s3 I.le).bind (fun h=>by omega) fun b s4 J=>?_;have e4:=J.lt;have e5:=J.cnt;refine⟨by omega,J.le,a7.make s.at_ N (by decide) (d5 _) (by omega) (az.cons (a7.mono (by omega) (by omega) _ I.ok) (az.cons (a7.mono (by omega) (by omega) _ J.ok) az.nil)),?_⟩;rw[aQ,aw,aw,aL];omega
 |none=>show cc _ _ ((if aP c s1 ⟨#[123]⟩then .ok (bU,bU,bU) s1 else nK F c s1).bind fun h D=>(bE F c D).bind fun b s3=>.ok (Nd.mk 31 ⟨#[]⟩ [h.1,h.2.1,h.2.2,b] (av c s)) s3);refine cc.bind (b':=3*(c.toks.length-s1.at_)+2<=g) (Q:=fun h D=>ME c s1.at_ h D.at_) (cc.ite (fun _=>⟨d5 _,M.2,.inl ii,.inl ii,.inl ii,by show iM bU+iM bU+iM bU<=_;rw[mB];omega⟩) fun _=>MF hF hT s1 M.2) (fun h=>by omega) fun h D h2=>?_;obtain⟨p1,p2,p3,p4,U,p6⟩:=h2;refine(mb hF hT D p2).bind (fun h=>by omega) fun b s3 I=>?_;have e4:=I.lt;have e5:=I.cnt;have up:∀n:Nd,rG n\/a7 c s1.at_ D.at_ n->rG n\/a7 c s.at_ s3.at_ n:=fun n h=>h.imp id fun h=>a7.mono (by omega) (by omega) _ h;refine⟨by omega,I.le,a7.make s.at_ (by show(0:Nat)<=_;omega) (by decide) (d5 _) (by omega) (cz.2 ⟨up _ p3,cz.2 ⟨up _ p4,cz.2 ⟨up _ U,az.cons (a7.mono (by omega) (by omega) _ I.ok) az.nil⟩⟩⟩),?_⟩;rw[aQ,aw,aw,aw,aw,aL];omega
theorem MG(s:St)(hs:s.at_<=c.toks.length):cc (3*(c.toks.length-s.at_)+2<=g) (fun n s1=>cE c s.at_ s.at_ 6 n s1.at_) (iC F c s):=by
 unfold iC;refine cc.ite (fun _=>?_) fun _=>cc.ite (fun _=>?_) fun _=>cc.ite (fun _=>?_) fun _=>cc.ite (fun _=>?_) fun _=>cc.ite (fun I=>?_) fun _=>cc.ite (fun I=>?_) fun _=>cc.ite (fun I=>?_) fun _=>?_
 ·exact(tm hF hT s hs).mono (fun h=>by omega) fun _ _ h=>h
 ·exact(MC hF hT s hs).mono (fun h=>by omega) fun _ _ h=>h
 ·exact(Px hF hT s hs).mono (fun h=>by omega) fun _ _ h=>h
 ·exact(mb hF hT s hs).mono (fun h=>by omega) fun _ _ h=>⟨h.lt,h.le,h.ok,by have:=h.cnt;omega⟩
 ·have D:=bM I;generalize adv s=s0 at D |-;have J:=D.1;have M:=D.2;refine cc.ite (fun _=>?_) (fun _=>?_)
  ·refine⟨by omega,D.2,a7.make s.at_ (by show(0:Nat)<=_;omega) (by decide) (d5 _) (by omega) (az.consZ ii az.nil),?_⟩;rw[aQ,aw,aL,mB];omega
  ·refine(hF.expr s0 D.2).bind (fun h=>by omega) fun v s1 h=>?_;have h:=h.1;have O:=h.lt;have N:=h.cnt;refine⟨by omega,h.le,a7.make s.at_ (by show(0:Nat)<=_;omega) (by decide) (d5 _) (by omega) (az.cons (a7.mono (by omega) (d5 _) _ h.ok) az.nil),?_⟩;rw[aQ,aw,aL];omega
 ·have D:=bM I;generalize adv s=s0 at D |-;have J:=D.1;refine⟨by omega,D.2,a7.make s.at_ (by show(0:Nat)<=_;omega) (by decide) (d5 _) (by omega) az.nil,?_⟩;rw[aQ,aL];omega
 ·have D:=bM I;generalize adv s=s0 at D |-;have J:=D.1;refine⟨by omega,D.2,a7.make s.at_ (by show(0:Nat)<=_;omega) (by decide) (d5 _) (by omega) az.nil,?_⟩;rw[aQ,aL];omega
 ·exact yt hF hT s hs
def Xk(n:Nd):Prop:=n.kind≠10/\n.kind<26
theorem B9(i0:Nat)(types:Bool)(s:St)(hs:s.at_<=c.toks.length)(I:i0<s.at_):cc (3*(c.toks.length-s.at_)<=g) (fun n s1=>cE c i0 s.at_ 0 n s1.at_/\Xk n) (du F (ar c i0).pos types c s):=by
 unfold du;refine cc.ite (fun _=>?_) (fun _=>?_)
 ·refine(tj hF hT i0 s hs (by omega)).bind id fun n s1 h=>?_;exact cc.ite (fun _=>⟨⟨h.1.lt,h.1.le,h.1.ok,by have:=h.1.cnt;omega⟩,by rw[h.2];decide,by rw[h.2];decide⟩) fun _=>trivial
 ·refine(Ga hF hT i0 s hs (by omega)).bind id fun n s1 h=>?_;have O:=h.1.lt;have N:=h.1.cnt;refine cc.ite (fun _=>⟨⟨h.1.lt,h.1.le,h.1.ok,by omega⟩,by rw[h.2];decide,by rw[h.2];decide⟩) fun _=>?_;refine(mb hF hT s1 h.1.le).bind (fun h=>by omega) fun b s2 D=>?_;have M:=D.lt;have J:=D.cnt;refine⟨⟨by omega,D.le,a7.make i0 (by show(0:Nat)<=_;omega) (by decide) (d5 _) (by omega) (az.cons (a7.mono (d5 _) (by omega) _ h.1.ok) (az.cons (a7.mono (by omega) (d5 _) _ D.ok) az.nil)),?_⟩,by show(25:Int)≠10;decide,by show(25:Int)<26;decide⟩;rw[aQ,aw,aw,aL];omega
theorem t6{part:R Nd}(D:∀s,s.at_<=c.toks.length->cc (3*(c.toks.length-s.at_)+2<=g) (fun n s1=>cE c s.at_ s.at_ 7 n s1.at_/\n.kind≠10/\n.kind<26) (part c s))(en:ByteArray)(s:St)(hs:s.at_<=c.toks.length):
  cc (3*(c.toks.length-s.at_)+2<=g) (fun l s1=>My c s.at_ s.at_ 0 l s1.at_) (ce (aX part en F.g []) c s):=by have _:=hT;refine yp (P:=fun l k=>My c s.at_ s.at_ 0 l k) s ?_;rw[hF.hg];exact(oH (i0:=s.at_) (lo:=s.at_) (b:=3*(c.toks.length-s.at_)+2<=g) (fun s' hlo hs'=>(D s' hs').mono (fun h=>by omega) fun _ _ h=>⟨h.1.lt,h.1.le,h.1.ok,by have:=h.1.cnt;omega⟩) g 0 [] { s with head:=false } (d5 _) (d5 _) hs az.nil (by rw[aL];omega)).mono (fun h=>⟨h,by show c.toks.length-s.at_<g;omega⟩) fun _ _ h=>h
theorem uH{i0:Nat}(t:Nd)(s:St)(I:cE c i0 i0 7 t s.at_):cc (3*(c.toks.length-s.at_)<=g) (fun n s1=>cE c i0 i0 7 n s1.at_/\Xk n/\s.at_<s1.at_) (da F t c s):=by have t1:=I.lt;have U:=I.cnt;unfold da;refine(ei (b:=True) _ s).bind (fun _=>trivial) fun _ s1 h1=>?_;have e1:=h1.1;have O:=h1.2;refine(t6 hF hT hF.expr ⟨#[125]⟩ s1 h1.2).bind (fun h=>by omega) fun l s2 D=>?_;have e2:=D.lt;have e3:=D.cnt;obtain⟨m,N,m2,M,J⟩:=I.ok.self;refine⟨⟨by omega,D.le,a7.make' m M (by show(0:Nat)<=_;omega) (by decide) N (by omega) (az.cons (a7.mono (d5 _) (by omega) _ J) (az.mono (by omega) (d5 _) _ D.ok)),?_⟩,⟨by show(24:Int)≠10;decide,by show(24:Int)<26;decide⟩,by omega⟩;rw[aQ,aw];omega
theorem Fd(types:Bool)(s:St)(hs:s.at_<=c.toks.length)(hb:aP c s ⟨#[91]⟩=true):cc (3*(c.toks.length-s.at_)+1<=g) (fun n s1=>cE c s.at_ s.at_ 7 n s1.at_/\Xk n) (ir F types c s):=by unfold ir;refine(hF.typ s hs).bind id fun t s1 h=>?_;have D:=h.1.lt;refine cc.ite (fun _=>⟨h.1,h.2.2 hb,by have:=h.2.1;omega⟩) fun _=>?_;exact(uH hF hT t s1 h.1).mono (fun h=>by omega) fun _ _ h=>⟨h.1,h.2.1⟩
theorem DT(s:St)(hs:s.at_<=c.toks.length):cc (3*(c.toks.length-s.at_)+1<=g) (fun x s1=>cE c s.at_ s.at_ 7 x.1 s1.at_/\Xk x.1) (cx F c s):=by
 (have leaf:∀(k:Int)(t:ByteArray),k≠22->k≠10->k<26->t.size<=1000000000->s.at_<c.toks.length->cE c s.at_ s.at_ 7 (.mk k t [] (ar c s.at_).pos) (s.at_+1)/\Xk (Nd.mk k t [] (ar c s.at_).pos):=by intro k t h22 O N ht D;refine⟨⟨by omega,D,a7.make s.at_ ht h22 (d5 _) (by omega) az.nil,?_⟩,O,N⟩;rw[aQ,aL];omega);unfold cx;refine cc.ite (fun M=>?_) fun _=>cc.ite (fun M=>?_) fun _=>cc.ite (fun M=>?_) fun _=>cc.ite (fun J=>?_) fun _=>cc.ite (fun J=>?_) fun _=>cc.ite (fun J=>?_) fun _=>trivial
 ·exact leaf 18 _ (by decide) (by decide) (by decide) (jB (hT.at_ _) (by decide)) (rt (by rw[M];decide))
 ·have D:=rt (c:=c) (i:=s.at_) (by rw[M];decide);exact leaf 16 _ (by decide) (by decide) (by decide) (by rw[pX D];exact hT.num _ (jC D)) D
 ·have D:=rt (c:=c) (i:=s.at_) (by rw[M];decide);exact leaf 17 _ (by decide) (by decide) (by decide) (by rw[pX D];exact hT.str _ (jC D)) D
 ·have I:RJ c s (adv { s with part :=-1 }):=bM (s:={ s with part :=-1 }) J;generalize adv { s with part :=-1 }=s0 at I |-;have e0:=I.1;have U:=I.2;refine(Iw hF hT s0 I.2).bind (fun h=>by omega) fun x s1 h=>?_;have e1:=h.1.lt;have e2:=h.1.cnt;refine(ei (b:=True) _ s1).bind (fun _=>trivial) fun _ s2 h2=>?_;have e3:=h2.1;exact⟨⟨by omega,h2.2,a7.mono (by omega) (by omega) _ h.1.ok,by show iM x+7<=_;omega⟩,h.2⟩
 ·have I:RJ c s (adv { s with part :=-1 }):=bM (s:={ s with part :=-1 }) J;generalize adv { s with part :=-1 }=s0 at I |-;have e0:=I.1;have U:=I.2;refine(B9 hF hT s.at_ _ s0 I.2 (by omega)).bind (fun h=>by omega) fun x s1 h=>?_;have e1:=h.1.lt;have e2:=h.1.cnt;exact⟨⟨by omega,h.1.le,h.1.ok,by show iM x+7<=_;omega⟩,h.2⟩
 ·exact(Fd hF hT _ { s with part :=-1 } hs (by unfold dp at J;rw[gB]at J;exact J.1)).bind id fun x s1 h=>h
theorem iX(i0:Nat):∀(f:Nat)(out:Nd)(bare:Bool)(s:St),cE c i0 i0 7 out s.at_->Xk out ->
  cc (3*(c.toks.length-s.at_)<=g/\c.toks.length-s.at_<f) (fun n s1=>cE c i0 i0 7 n s1.at_/\Xk n) (aI F f out bare c s)
 |0,_,_,_,_,_=>fun h=>absurd h.2 (by omega)
 |f+1,out,bare,s,I,hx=>by
  have o1:=I.lt;have o2:=I.cnt;have o3:=I.le;obtain⟨m,m1,m2,U,O⟩:=I.ok.self;unfold aI;refine cc.ite (fun J=>?_) fun _=>cc.ite (fun J=>?_) fun _=>cc.ite (fun J=>?_) fun _=>cc.ite (fun J=>?_) fun _=>⟨I,hx⟩
  ·have D:=bM J;generalize adv s=s0 at D |-;have e0:=D.1;have N:=D.2;refine(t6 hF hT hF.expr ⟨#[41]⟩ s0 D.2).bind (fun h=>by omega) fun l s1 h=>?_;have e1:=h.lt;have e2:=h.cnt;refine(iX i0 f _ false s1 ⟨by omega,h.le,a7.make' m U (by show(0:Nat)<=_;omega) (by decide) m1 (by omega) (az.cons (a7.mono (d5 _) (by omega) _ O) (az.mono (by omega) (d5 _) _ h.ok)),?_⟩ ⟨by show(21:Int)≠10;decide,by show(21:Int)<26;decide⟩).mono (fun h=>⟨by omega,by omega⟩) fun _ _ h=>h;rw[aQ,aw];omega
  ·have D:=bM J;generalize adv s=s0 at D |-;have e0:=D.1;have N:=D.2;refine(t6 (part:=db F) hF hT (fun s hs=>hF.expr { s with part:=s.at_ } hs) ⟨#[93]⟩ s0 D.2).bind (fun h=>by omega) fun l s1 h=>?_;have e1:=h.lt;have e2:=h.cnt;refine cc.ite (fun _=>trivial) fun hl=>?_;refine(iX i0 f _ bare s1 ⟨by omega,h.le,fS.2 ⟨by show(0:Nat)<=_;omega,fun _=>⟨out,l,rfl,fun h=>hl (by rw[h];rfl),hx.1,rfl⟩,m,m1,by omega,U,az.cons (a7.mono (d5 _) (by omega) _ O) (az.mono (by omega) (d5 _) _ h.ok)⟩,?_⟩ ⟨by show(22:Int)≠10;decide,by show(22:Int)<26;decide⟩).mono (fun h=>⟨by omega,by omega⟩) fun _ _ h=>h;rw[aQ,aw];omega
  ·have D:=bM J;generalize adv s=s0 at D |-;have e0:=D.1;have N:=D.2;refine(mC (b:=True) hT s0).bind (fun _=>trivial) fun x s1 M=>?_;have e1:=M.1.1;have gb:=M.1.2;refine(iX i0 f _ false s1 ⟨by omega,M.1.2,a7.make' m U (jB M.2 (by decide)) (by decide) m1 (by omega) (az.cons (a7.mono (d5 _) (by omega) _ O) az.nil),?_⟩ ⟨by show(23:Int)≠10;decide,by show(23:Int)<26;decide⟩).mono (fun h=>⟨by omega,by omega⟩) fun _ _ h=>h;rw[aQ,aw,aL];omega
  ·cases ha:bJ out with
   |none=>exact⟨I,hx⟩
   |some t=>obtain⟨q1,q2,q3,q4⟩:=tY out t ha I.ok;have ga:=o9 (show aP c s ⟨#[123]⟩=true by rw[gB]at J;exact J.1);show cc _ _ ((da F t c s).bind fun n s1=>aI F f n false c s1);refine(uH hF hT t s ⟨I.lt,I.le,q1,by omega⟩).bind (fun h=>by omega) fun n s1 h=>?_;obtain⟨M,h2,h3⟩:=h;have:=M.le;exact(iX i0 f n false s1 M h2).mono (fun h=>⟨by omega,by omega⟩) fun _ _ h=>h
theorem DU(s:St)(hs:s.at_<=c.toks.length):cc (3*(c.toks.length-s.at_)+1<=g) (fun n s1=>cE c s.at_ s.at_ 7 n s1.at_/\Xk n) (fE F c s):=by unfold fE;refine(DT hF hT s hs).bind id fun x s1 h=>?_;have I:=h.1.lt;have D:=h.1.le;rw[hF.hg];exact(iX hF hT s.at_ g x.1 x.2 s1 h.1 h.2).mono (fun h=>⟨by omega,by omega⟩) fun _ _ h=>h
theorem Bl(s:St)(hs:s.at_<=c.toks.length):cc (3*(c.toks.length-s.at_)+1<=g) (fun n s1=>cE c s.at_ s.at_ 7 n s1.at_/\Xk n) (iG F c s):=by unfold iG;refine cc.ite (fun J=>?_) fun _=>DU hF hT s hs;(have I:s.at_<c.toks.length:=by rw[gH]at J;exact J.elim o9 o9);have D:=nT I;generalize adv s=s0 at D |-;have U:=D.1;have M:=D.2;refine(hF.unary s0 D.2).bind (fun h=>by omega) fun x s1 h=>?_;have O:=h.1.lt;have N:=h.1.cnt;refine⟨⟨by omega,h.1.le,a7.make s.at_ (jB (hT.at_ _) (by decide)) (by decide) (d5 _) (by omega) (az.cons (a7.mono (by omega) (d5 _) _ h.1.ok) az.nil),?_⟩,by show(19:Int)≠10;decide,by show(19:Int)<26;decide⟩;rw[aQ,aw,aL];omega
theorem Bm(k:Nat){below:R Nd}(hb:∀s,s.at_<=c.toks.length->cc (3*(c.toks.length-s.at_)+1<=g) (fun n s1=>cE c s.at_ s.at_ 7 n s1.at_/\Xk n) (below c s))(i0:Nat):∀(f:Nat)(out:Nd)(s:St),cE c i0 i0 7 out s.at_->Xk out ->
  cc (3*(c.toks.length-s.at_)+1<=g/\c.toks.length-s.at_<f) (fun n s1=>cE c i0 i0 7 n s1.at_/\Xk n) (lV k below f out c s)
 |0,_,_,_,_=>fun h=>absurd h.2 (by omega)
 |f+1,out,s,I,hx=>by have _:=hF;have o1:=I.lt;have o2:=I.cnt;have o3:=I.le;obtain⟨m,U,m2,O,N⟩:=I.ok.self;unfold lV;refine cc.ite (fun M=>?_) fun _=>⟨I,hx⟩;have J:s.at_<c.toks.length:=rt (fun D=>by unfold RB at M;rw[D]at M;simp at M);have D:=nT J;generalize adv s=s0 at D |-;have e0:=D.1;have ga:=D.2;refine(hb s0 D.2).bind (fun h=>by omega) fun y s1 h=>?_;have e1:=h.1.lt;have e2:=h.1.cnt;refine(Bm k hb i0 f _ s1 ⟨by omega,h.1.le,a7.make' m O (jB (hT.at_ _) (by decide)) (by decide) U (by omega) (az.cons (a7.mono (d5 _) (by omega) _ N) (az.cons (a7.mono (by omega) (d5 _) _ h.1.ok) az.nil)),?_⟩ ⟨by show(20:Int)≠10;decide,by show(20:Int)<26;decide⟩).mono (fun h=>⟨by omega,by omega⟩) fun _ _ h=>h;rw[aQ,aw,aw,aL];omega
theorem Ca:∀(k:Nat)(s:St),s.at_<=c.toks.length->cc (3*(c.toks.length-s.at_)+1<=g) (fun n s1=>cE c s.at_ s.at_ 7 n s1.at_/\Xk n) (i9 F k c s)
 |0,s,hs=>Bl hF hT s hs
 |k+1,s,hs=>by unfold i9;refine(Ca k s hs).bind id fun x s1 h=>?_;have I:=h.1.lt;have D:=h.1.le;rw[hF.hg];exact(Bm hF hT (k+1) (Ca k) s.at_ g x s1 h.1 h.2).mono (fun h=>⟨by omega,by omega⟩) fun _ _ h=>h
theorem yu(i0 C:Nat)(N:i0<=C)(x:ByteArray)(I:x.size<=65536):∀(f:Nat)(acc:List Nd)(s:St),s.at_<=c.toks.length->az c i0 s.at_ acc->lw acc<=8*(s.at_-C)->C<=s.at_ ->
  cc (3*(c.toks.length-s.at_)<=g/\c.toks.length-s.at_<f) (fun n s1=>cE c i0 C 0 n s1.at_) (fX F (ar c i0).pos x f acc c s)
 |0,_,_,_,_,_,_=>fun h=>absurd h.2 (by omega)
 |f+1,acc,s,h2,J,h4,U=>by
  unfold fX;refine cc.ite (fun M=>?_) fun _=>trivial;have D:=nT (pY M);generalize adv s=s0 at D |-;have e0:=D.1;have O:=D.2;refine cc.ite (fun _=>?_) fun _=>cc.ite (fun _=>?_) fun _=>trivial
  ·refine⟨by omega,D.2,a7.make i0 (jB I (by decide)) (by decide) (d5 _) (by omega) (az.mono (d5 _) (by omega) _ J),?_⟩;rw[aQ];omega
  ·refine(MB hF hT s0 D.2).bind (fun h=>by omega) fun d s1 h=>?_;have e1:=h.lt;have e2:=h.cnt;exact(yu i0 C N x I f _ s1 h.le ((az.mono (d5 _) (by omega) _ J).app (az.cons (a7.mono (by omega) (d5 _) _ h.ok) az.nil)) (by rw[lr,aw,aL];omega) (by omega)).mono (fun h=>⟨by omega,by omega⟩) fun _ _ h=>h
theorem MH(s:St)(hs:s.at_<=c.toks.length):cc (3*(c.toks.length-s.at_)<=g) (fun n s1=>cE c s.at_ s.at_ 0 n s1.at_) (fY F c s):=by have _:=hs;unfold fY;refine(ei (b:=True) _ s).bind (fun _=>trivial) fun _ s1 h1=>?_;have M:=h1.1;have I:=h1.2;refine(mC (b:=True) hT s1).bind (fun _=>trivial) fun x s2 h2=>?_;have J:=h2.1.1;have D:=h2.1.2;rw[hF.hg];exact(yu hF hT s.at_ s.at_ (d5 _) x h2.2 g [] s2 h2.1.2 az.nil (by rw[aL];omega) (by omega)).mono (fun h=>⟨by omega,by omega⟩) fun _ _ h=>h
end
theorem tq{c:Cx}(hT:uQ c):∀g,Mz c g (cF g)
 |0=>⟨rfl,fun _ _ h=>absurd h (by omega),fun _ _ h=>absurd h (by omega),fun _ _ h=>absurd h (by omega),fun _ _ h=>absurd h (by omega),fun _ _ h=>absurd h (by omega)⟩
 |g+1=>by
  have hF:=tq hT g;exact⟨rfl,Pw hF hT,fun s hs=>(Ca hF hT 5 s hs).mono (fun h=>by omega) fun _ _ h=>h,fun s hs=>(Bl hF hT s hs).mono (fun h=>by omega) fun _ _ h=>h,
   fun s hs=>(MG hF hT s hs).mono (fun h=>by omega) fun _ _ h=>h,fun s hs=>(MC hF hT s hs).mono (fun h=>by omega) fun _ _ h=>h⟩
end
end Go.Proofs.YtiebcdeafofgdaaGreatDoor
