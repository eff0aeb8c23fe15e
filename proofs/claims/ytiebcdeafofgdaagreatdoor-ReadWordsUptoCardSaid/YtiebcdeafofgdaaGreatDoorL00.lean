/-
  Parts of the proof: Words Enc Node Qc Open Law Shelf4 Shelf Lspec Rspec. By an AI agent.
-/
import Derived.Test.YtiebcdeafofgdaaGreatDoorChecked
import Derived.Test.YtiebcdeafofgdaaGreatDoorProg
import Derived.Below
import Derived.Laws.OwnMore
import Derived.Deep.AppendLies
import Derived.Deep.Draws
import Derived.Maps.AppendAt
import Derived.RegionTactic
import Derived.OwnWalk
import Derived.Laws.Rows
import Derived.BigQuiet
import Derived.Deep.Slices
import Derived.Deep.Fields
import Derived.ChangeSame
import Derived.ProofKit
import Derived.OpenShut
import Derived.Deep.DeepHandedRow
import Derived.Lib.LaidTab
import Derived.SizedLaws
import Derived.Shelf.Spec.DecodeRune
import Derived.Shelf.Strings.Replace
import Derived.Shelf.Strings.Builder1
import Derived.Shelf.Small.Utf8
import Derived.Ground.NamesProg
import Derived.Ground.Names7Prog
import Derived.Shelf.Lays
import Derived.Shelf.Lays7
import Derived.Shelf.Strings.Search3
import Derived.Shelf.Strings.Cut
import Derived.Shelf.Strings.Prefix
import Derived.Shelf.Small.Strs
namespace Go.Proofs.YtiebcdeafofgdaaGreatDoor
section
open Go.RowKit
abbrev BA:=ByteArray
theorem am {a b c:World} (h:Below a.heap.size a b) (h':Below b.heap.size b c):Below a.heap.size a c:=h.trans (h'.mono h.size)
theorem lg (a:Addr) (n:Nat):(a.add n).block=a.block:=by unfold Addr.add;split <;> rfl
theorem uM (a:Addr) (i j:Nat):(a.add i).add j=a.add (i+j):=by unfold Addr.add;by_cases I:i=0 <;> by_cases D:j=0 <;> simp [I,D,Nat.add_assoc]
def bB (w:World) (B size:Nat) (A:Option Addr) (n:Nat) (xs:List Value):Prop:=
 xs.length=n * size∧(0<n→∃ ad,A=some ad∧ad.block<B∧∀ j u,xs[j]? = some u→w.cell? (ad.add j)=some u)
section
variable {w w':World} {B B' size n:Nat} {A:Option Addr} {xs:List Value}
theorem bB.at_ {k:Nat} (h:bB w B 1 A n xs) (J:k<n):∃ ad u,A=some ad∧ad.block<B∧xs[k]? = some u∧w.cell? (ad.add k)=some u:=by obtain ⟨ad,e,hb,I⟩:=h.2 (by omega);(have D:k<xs.length:=by have:=h.1;omega);exact ⟨ad,xs[k],e,hb,List.getElem?_eq_getElem D,I k _ (List.getElem?_eq_getElem D)⟩
theorem bB.keep (h:bB w B size A n xs) (I:∀ p:Addr,p.block<B→w'.cell? p=w.cell? p):bB w' B size A n xs:=
 ⟨h.1,fun D=>by obtain ⟨ad,e,hb,J⟩:=h.2 D;exact ⟨ad,e,hb,fun j u hu=>(I _ (by rw [lg];exact hb)).trans (J j u hu)⟩⟩
theorem bB.below (h:bB w B size A n xs) (hb:Below B w w'):bB w' B size A n xs:=h.keep fun _ hp=>hb.cell hp
theorem bB.drew (h:bB w B size A n xs):bB w.drew B size A n xs:=h
theorem bB.drewN (h:bB w B size A n xs) (k:Nat):bB (w.drewN k) B size A n xs:=h
theorem bB.alloc (h:bB w B size A n xs) (hB:B≤w.heap.size) (o:Obj):bB (w.alloc o) B size A n xs:=h.keep fun p hp=>World.cell?_alloc_lt w o p (by omega)
theorem bB.setCell (h:bB w B size A n xs) {p:Addr} (hB:B≤p.block) (u:Value):bB (w.setCell p u) B size A n xs:=
 h.keep fun q hq=>World.cell?_setCell_other w p q u (fun e=>by subst e;omega)
theorem bB.grown (h:bB w B size A n xs) {row:Option Nat} (I:w.grownBy w' row) (hB:B≤w.heap.size) (D:∀ g,row=some g→B≤g):bB w' B size A n xs:=
 h.keep fun p hp=>World.cell?_of_block (I.block p.block (by omega) (fun e=>by have:=D _ e.symm;omega))
theorem bB.cut (h:bB w B size A n xs) {k cap:Nat} (J:k≤n) (K:n≤cap) :
  bB w B size (if cap=k then A else A.map (·.add (k * size))) (n-k) (xs.drop (k * size)):=by refine ⟨by rw [List.length_drop,h.1,Nat.sub_mul],fun I=>?_⟩;obtain ⟨ad,rfl,hb,D⟩:=h.2 (by omega);rw [if_neg (by omega)];refine ⟨ad.add (k * size),rfl,by rw [lg];exact hb,fun j u hu=>?_⟩;rw [uM];exact D _ u (by rw [←hu,List.getElem?_drop])
theorem bB.of_own {base:Nat} {e:TypeId} {c:Nat} (h:w.ownsRow base e size (.slice A n c) n xs):bB w w.heap.size size A n xs:=by refine ⟨h.1,fun J=>?_⟩;obtain ⟨g,cap,I,_,D⟩:=h.form J;(have K:A=some ⟨g,0,none⟩:=by injection I);subst K;exact ⟨_,rfl,D,h.cells (g:=g) rfl⟩
end
def ar (w:World) (g:Nat) (t:TypeId) (cs:Array Value):Prop:=w.heap[g]? = some (.cells cs t (0,0))
section
variable {w w':World} {g:Nat} {t:TypeId} {cs:Array Value}
theorem ar.lt (h:ar w g t cs):g<w.heap.size:=by
 rcases Nat.lt_or_ge g w.heap.size with D | hge
 ·exact D
 ·unfold ar at h;rw [Array.getElem?_eq_none hge] at h;cases h
theorem ar.cell (h:ar w g t cs) (i:Nat):w.cell? ⟨g,i,none⟩=cs[i]? := cell_of_row w g i cs t (0,0) h
theorem ar.frozen (h:ar w g t cs) (i:Nat):w.frozen? ⟨g,i,none⟩=false:=by unfold ar at h;simp [World.frozen?,h]
theorem ar.new (w:World) (t:TypeId) (cs:Array Value):ar (w.alloc (.cells cs t)) w.heap.size t cs:=heap_alloc_new w _
theorem ar.drew (h:ar w g t cs):ar w.drew g t cs:=h
theorem ar.drewN (h:ar w g t cs) (n:Nat):ar (w.drewN n) g t cs:=h
theorem ar.alloc (h:ar w g t cs) (o:Obj):ar (w.alloc o) g t cs:=(Below.heap_alloc w o g h.lt).trans h
theorem ar.set_ (h:ar w g t cs) (i:Nat) (u:Value):ar (w.setCell ⟨g,i,none⟩ u) g t (cs.setIfInBounds i u):=by unfold ar at h ⊢;simp [World.setCell,Array.getElem?_modify,h]
theorem ar.far (h:ar w g t cs) {p:Addr} (D:g≠p.block) (u:Value):ar (w.setCell p u) g t cs:=(Below.heap_setCell w p u g D).trans h
theorem ar.below {B:Nat} (h:ar w g t cs) (hb:Below B w w') (D:g<B):ar w' g t cs:=(hb.block g D).trans h
theorem ar.bl (h:ar w g t cs) (hb:Below w.heap.size w w'):ar w' g t cs:=h.below hb h.lt
theorem ar.grown {row:Option Nat} (h:ar w g t cs) (hb:w.grownBy w' row) (D:some g≠row:=by intro e;injection e with e;omega):ar w' g t cs:=(hb.block g h.lt D).trans h
end
section
variable {P:Program} (w:World)
theorem m7 (base:Nat) (t ty e:TypeId) (i:TypeInfo) (size:Nat) (J:P.underlying t=some (.slice e)) (K:P.info? e=some i)
  (v:Value) (n:Nat) (xs:List Value) (D:w.ownsRow base e size v n xs) (c:Nat):(Builtin.append_ #[t,t] ty #[v,.slice none 0 c]).run P w=.ok v w:=by
 rcases D.2 with ⟨rfl,rfl⟩ | ⟨g,cap,cur,rfl,_,_,I,_⟩
 ·simp [Builtin.append_,run_underlying J,sizeOf,typeInfo,K,Builtin.lenOf,Builtin.firstCells]
 ·simp [Builtin.append_,run_underlying J,sizeOf,typeInfo,K,Builtin.lenOf,Builtin.firstCells,I,storeCells]
theorem pc (base:Nat) (t ty e:TypeId) (i:TypeInfo) (z:Value) (size bytes:Nat) (ht:P.underlying t=some (.slice e)) (hi:P.info? e=some i) (hz:i.zero=some z)
  (K:i.size=size) (gb:i.bytes=bytes) (q:z.cells.size=size) (ga:0<size)
  (v:Value) (n:Nat) (xs:List Value) (D:w.ownsRow base e size v n xs)
  (B:Nat) (A:Option Addr) (m c:Nat) (news:List Value) (U:bB w B size A m news) (h1:∀ u∈news,u.oneCell'=true)
  (gd:n+m≤maxLen) (J:(n+m) * bytes≤140737488355328) (M:base≤w.heap.size) :
  ∃ v' w',(Builtin.append_ #[t,t] ty #[v,.slice A m c]).run P w=.ok v' w'∧w'.ownsRow base e size v' (n+m) (xs++news)∧w.grownBy w' v.ownBlock ∧
    (v'.ownBlock=v.ownBlock∨v'.ownBlock=some w.heap.size):=by
 rcases A with _ | ad
 ·have hm:m=0:=by
   rcases Nat.eq_zero_or_pos m with N | N
   ·exact N
   ·obtain ⟨ad,h,_⟩:=U.2 N;cases h
  subst hm;have hn:news=[]:=List.eq_nil_of_length_eq_zero (by simpa using U.1);subst hn;exact ⟨v,w,m7 w base t ty e i size ht hi v n xs D c,by simpa using D,World.grownBy.refl w _,.inl rfl⟩
 ·have I:∀ j u,news[j]? = some u→w.cell? (ad.add j)=some u:=by
   intro j u hu;rcases Nat.eq_zero_or_pos m with N | N
   ·subst N;have hn:news=[]:=List.eq_nil_of_length_eq_zero (by simpa using U.1);subst hn;simp at hu
   ·obtain ⟨ad',h,_,hc⟩:=U.2 N;injection h with h;subst h;exact hc j u hu
  obtain ⟨v',w',O,h2,h3,_,h5⟩:=run_append_own_at (P:=P) w base t ty e i z size bytes ht hi hz K gb q ga v n xs D ad m c news U.1 I h1 gd J M;exact ⟨v',w',O,h2,h3,h5⟩
theorem ri {o:Oper} {a:Act} {K:Act→World→Prop} {Q:Exit→Act→World→Prop} (s x:Operand) (t:TypeId)
  (ho:o.op=.call { callee:=.builtin .append,args:=#[s,x],argTypes:=#[t,t] })
  (base:Nat) (e:TypeId) (i:TypeInfo) (z:Value) (size bytes:Nat) (ht:P.underlying t=some (.slice e)) (hi:P.info? e=some i) (hz:i.zero=some z)
  (I:i.size=size) (j:i.bytes=bytes) (O:z.cells.size=size) (U:0<size)
  (v:Value) (n:Nat) (xs:List Value) (hs:a.eval s=v) (N:w.ownsRow base e size v n xs)
  (B:Nat) (A:Option Addr) (m c:Nat) (news:List Value) (hx:a.eval x=.slice A m c) (hr:bB w B size A m news) (h1:∀ u∈news,u.oneCell'=true)
  (q:n+m≤maxLen) (D:(n+m) * bytes≤140737488355328) (J:base≤w.heap.size)
  (h:∀ v' w',w'.ownsRow base e size v' (n+m) (xs++news)→w.grownBy w' v.ownBlock→(v'.ownBlock=v.ownBlock∨v'.ownBlock=some w.heap.size)→K (a.put o.dst v') w'):o.wp P a w K Q:=by obtain ⟨v',w',M,h2,h3,h4⟩:=pc (P:=P) w base t o.type e i z size bytes ht hi hz I j O U v n xs N B A m c news hr h1 q D J;unfold Oper.wp execOp;simp only [ho,resolve,invoke,builtin,Sem.run_bind,Sem.run_pure,Result.andThen_ok,List.map_toArray,List.map_cons,List.map_nil,hs,hx,M];exact h v' w' h2 h3 h4
theorem fH {ops:Array Oper} {o:Oper} {a:Act} {K:Act→World→Prop} {Q:Exit→Act→World→Prop} {E:Prop} (U:o.guard=none) (s x:Operand) (t:TypeId)
  (ho:o.op=.call { callee:=.builtin .append,args:=#[s,x],argTypes:=#[t,t] })
  (base:Nat) (e:TypeId) (i:TypeInfo) (z:Value) (size bytes:Nat) (ht:P.underlying t=some (.slice e)) (hi:P.info? e=some i) (hz:i.zero=some z)
  (I:i.size=size) (j:i.bytes=bytes) (N:z.cells.size=size) (O:0<size)
  (v:Value) (n:Nat) (xs:List Value) (hs:a.eval s=v) (M:w.ownsRow base e size v n xs)
  (B:Nat) (A:Option Addr) (m c:Nat) (news:List Value) (hx:a.eval x=.slice A m c) (hr:bB w B size A m news) (h1:∀ u∈news,u.oneCell'=true)
  (q:n+m≤maxLen) (D:(n+m) * bytes≤140737488355328) (J:base≤w.heap.size)
  (h:∀ v' w',w'.ownsRow base e size v' (n+m) (xs++news)→w.grownBy w' v.ownBlock→(v'.ownBlock=v.ownBlock∨v'.ownBlock=some w.heap.size)→K (a.put o.dst v') w') :
  if Region.wanted o (yielded ops a.tmps)=true then Oper.wp P o a w K Q else E:=by (have hw:Region.wanted o (yielded ops a.tmps)=true:=by simp [Region.wanted,U]);rw [if_pos hw];exact ri w s x t ho base e i z size bytes ht hi hz I j N O v n xs hs M B A m c news hx hr h1 q D J h
end
section
variable {α:Type} {enc:α→List Value} {sz:Nat}
theorem m8 (hs:∀ x,(enc x).length=sz) (xs:List α):(xs.flatMap enc).length=xs.length * sz:=by
 induction xs with
 | nil=>simp
 | cons x xs ih=>simp [List.flatMap_cons,ih,hs,Nat.add_mul,Nat.add_comm]
theorem iN (hs:∀ x,(enc x).length=sz):∀ (xs:List α) (i j:Nat) (h:i<xs.length),j<sz→(xs.flatMap enc)[i * sz+j]? = (enc xs[i])[j]?
 | [],i,j,h,_=>by simp at h
 | x::xs,0,j,_,D=>by rw [List.flatMap_cons,List.getElem?_append_left (by rw [hs];omega)];simp
 | x::xs,i+1,j,h,D=>by
  (have h':i<xs.length:=by simpa using h);rw [List.flatMap_cons,List.getElem?_append_right (by rw [hs,Nat.add_mul];omega),hs,Nat.add_mul,Nat.one_mul,
   show i * sz+sz+j-sz=i * sz+j by omega,iN hs xs i j h' D]
  simp
theorem lh {w:World} {a:Addr} {v:Value} (h:w.cell? a=some v):a=⟨a.block,a.off,none⟩:=by
 obtain ⟨b,o,s⟩:=a;cases s with
 | none=>rfl
 | some s=>unfold World.cell? at h;simp at h;split at h <;> simp at h
theorem nL (b o i:Nat):(⟨b,o,none⟩:Addr).add i=⟨b,o+i,none⟩:=by
 unfold Addr.add;split
 ·rename_i h;subst h;rfl
 ·rfl
theorem eF (w:World) (b o:Nat) (v:Value):w.grownBy (w.setCell ⟨b,o,none⟩ v) (some b):=
 ⟨rfl,rfl,rfl,by simp [World.setCell],fun k _ hne=>Below.heap_setCell w ⟨b,o,none⟩ v k (fun e=>hne (by rw [e]))⟩
theorem cC {w w':World} {b B:Nat} (h:w.grownBy w' (some b)) (hb:B≤b) (hB:B≤w.heap.size):Below B w w':=
 ⟨h.os,h.tape,h.output,h.size,fun k hk=>h.block k (by omega) (fun e=>by injection e with e;omega)⟩
theorem aP {w w':World} (r:Option Nat) (h:Below w.heap.size w w'):w.grownBy w' r:=⟨h.os,h.tape,h.output,h.size,fun k hk _=>h.block k hk⟩
theorem ar.new_at {w:World} {n:Nat} (h:w.heap.size=n) (t:TypeId) (cs:Array Value):ar (w.alloc (.cells cs t)) n t cs:=by subst h;exact ar.new w t cs
theorem bB.el {w:World} {B n:Nat} {A:Option Addr} {xs:List α} (h:bB w B sz A n (xs.flatMap enc)) (hs:∀ x,(enc x).length=sz) (q:0<sz) (hn:xs.length=n) {i:Nat} (hi:i<n) :
  ∃ b off,A=some ⟨b,off,none⟩∧b<B∧∀ k (J:k<xs.length) j u,(enc xs[k])[j]? = some u→w.cell? ⟨b,off+k * sz+j,none⟩=some u:=by obtain ⟨ad,U,hb,O⟩:=h.2 (by omega);(have key:∀ k (J:k<xs.length) j u,(enc xs[k])[j]? = some u→w.cell? (ad.add (k * sz+j))=some u:=by intro k J j u I;(have N:j<sz:=by have:=(List.getElem?_eq_some_iff.1 I).1;rw [hs] at this;exact this);exact O _ u (by rw [iN hs xs k j J N];exact I));have M:∃ u,(enc (xs[0]'(by omega)))[0]? = some u:=⟨(enc (xs[0]'(by omega)))[0]'(by rw [hs];exact q),List.getElem?_eq_getElem _⟩;obtain ⟨u,I⟩:=M;have D:=key 0 (by omega) 0 u I;rw [show 0 * sz+0=0 by omega,show ad.add 0=ad from rfl] at D;have D:=lh D;obtain ⟨b,o,s⟩:=ad;(have K:s=none:=by simpa using D);subst K;refine ⟨b,o,U,hb,fun k J j u I=>?_⟩;have:=key k J j u I;rw [nL,←Nat.add_assoc] at this;exact this
theorem ou {w:World} {n:Nat} (h:w.heap.size=n) (o:Obj):(w.alloc o).heap[n]? = some o:=by subst h;exact heap_alloc_new w o
theorem bB.len {w:World} {B n:Nat} {A:Option Addr} {xs:List α} (h:bB w B sz A n (xs.flatMap enc)) (hs:∀ x,(enc x).length=sz) (D:0<sz):xs.length=n:=by have:=h.1;rw [m8 hs] at this;exact Nat.eq_of_mul_eq_mul_right D this
end
inductive Nd where
 | mk (kind:Int) (text:ByteArray) (kids:List Nd) (pos:Int)
namespace Nd
def kind:Nd→Int | .mk k _ _ _=>k
def text:Nd→ByteArray | .mk _ t _ _=>t
def kids:Nd→List Nd | .mk _ _ l _=>l
def pos:Nd→Int | .mk _ _ _ a=>a
@[simp] theorem kind_mk (k t l a):(Nd.mk k t l a).kind=k:=rfl
@[simp] theorem text_mk (k t l a):(Nd.mk k t l a).text=t:=rfl
@[simp] theorem kids_mk (k t l a):(Nd.mk k t l a).kids=l:=rfl
@[simp] theorem pos_mk (k t l a):(Nd.mk k t l a).pos=a:=rfl
theorem eta (n:Nd):n=.mk n.kind n.text n.kids n.pos:=by cases n;rfl
end Nd
def eG:Nd:=.mk 0 ⟨#[]⟩ [] 0
theorem ae (w:World) (c:Array Value):Below w.heap.size w (w.alloc (.cells c 24))∧ar (w.alloc (.cells c 24)) w.heap.size 24 c:=⟨(Below.refl w.heap.size w).alloc (Nat.le_refl _) _,ar.new w _ _⟩
def dk (X:Nat→Prop) (w:World) (size:Nat) (A:Option Addr) (n:Nat) (xs:List Value):Prop:=
 xs.length=n * size∧(0<n→∃ b off,A=some ⟨b,off,none⟩∧X b∧∀ j u,xs[j]? = some u→w.cell? ⟨b,off+j,none⟩=some u)
mutual
def bK (X:Nat→Prop) (w:World):Nd→List Value→Prop
 | .mk k t l a,cs=>∃ A cap xs,cs=[.int .i64 k,.string t,.slice A l.length cap,.int .i64 a]∧l.length≤cap∧dk X w 4 A l.length xs∧au X w l xs
def au (X:Nat→Prop) (w:World):List Nd→List Value→Prop
 | [],xs=>xs=[]
 | n::l,xs=>∃ ys zs,xs=ys++zs∧bK X w n ys∧au X w l zs
end
section
variable {X Y:Nat→Prop} {w w':World}
theorem dk.mono {size n:Nat} {A:Option Addr} {xs:List Value} (D:∀ b,X b→b<w.heap.size→Y b) (h:dk X w size A n xs) (hs:0<size):dk Y w size A n xs:=
 ⟨h.1,fun I=>by obtain ⟨b,off,e,hb,J⟩:=h.2 I;(have K:0<xs.length:=by rw [h.1];exact Nat.mul_pos I hs);have M:=J 0 xs[0] (List.getElem?_eq_getElem K);exact ⟨b,off,e,D b hb (World.block_lt_of_cell? w _ M),J⟩⟩
theorem dk.keep {size n:Nat} {A:Option Addr} {xs:List Value} (K:∀ b,X b→b<w.heap.size→w'.heap[b]? = w.heap[b]?) (h:dk X w size A n xs):dk X w' size A n xs:=
 ⟨h.1,fun J=>by obtain ⟨b,off,e,hb,M⟩:=h.2 J;refine ⟨b,off,e,hb,fun j u hu=>?_⟩;have I:=M j u hu;have D:=World.block_lt_of_cell? w _ I;exact (World.cell?_of_block (a:=⟨b,off+j,none⟩) (K b hb D)).trans I⟩
mutual
theorem bK.mono (D:∀ b,X b→b<w.heap.size→Y b):∀ (n:Nd) (cs:List Value),bK X w n cs→bK Y w n cs
 | .mk k t l a,cs,h=>by unfold bK at h ⊢;obtain ⟨A,cap,xs,e,K,I,J⟩:=h;exact ⟨A,cap,xs,e,K,I.mono D (by omega),au.mono D l xs J⟩
theorem au.mono (D:∀ b,X b→b<w.heap.size→Y b):∀ (l:List Nd) (xs:List Value),au X w l xs→au Y w l xs
 | [],xs,h=>by unfold au at h ⊢;exact h
 | n::l,xs,h=>by unfold au at h ⊢;obtain ⟨ys,zs,e,J,I⟩:=h;exact ⟨ys,zs,e,bK.mono D n ys J,au.mono D l zs I⟩
end
mutual
theorem bK.keep (D:∀ b,X b→b<w.heap.size→w'.heap[b]? = w.heap[b]?):∀ (n:Nd) (cs:List Value),bK X w n cs→bK X w' n cs
 | .mk k t l a,cs,h=>by unfold bK at h ⊢;obtain ⟨A,cap,xs,e,K,I,J⟩:=h;exact ⟨A,cap,xs,e,K,I.keep D,au.keep D l xs J⟩
theorem au.keep (D:∀ b,X b→b<w.heap.size→w'.heap[b]? = w.heap[b]?):∀ (l:List Nd) (xs:List Value),au X w l xs→au X w' l xs
 | [],xs,h=>by unfold au at h ⊢;exact h
 | n::l,xs,h=>by unfold au at h ⊢;obtain ⟨ys,zs,e,J,I⟩:=h;exact ⟨ys,zs,e,bK.keep D n ys J,au.keep D l zs I⟩
end
theorem bK.len {n:Nd} {cs:List Value} (h:bK X w n cs):cs.length=4:=by cases n;unfold bK at h;obtain ⟨A,cap,xs,e,_⟩:=h;simp [e]
theorem au.len:∀ {l:List Nd} {xs:List Value},au X w l xs→xs.length=l.length * 4
 | [],xs,h=>by unfold au at h;simp [h]
 | n::l,xs,h=>by unfold au at h;obtain ⟨ys,zs,rfl,I,D⟩:=h;rw [List.length_append,I.len,D.len,List.length_cons];omega
theorem au.nil:au X w [] []:=by unfold au;rfl
theorem au.cons {n:Nd} {l:List Nd} {ys zs:List Value} (I:bK X w n ys) (D:au X w l zs):au X w (n::l) (ys++zs):=by unfold au;exact ⟨ys,zs,rfl,I,D⟩
theorem au.one {n:Nd} {ys:List Value} (D:bK X w n ys):au X w [n] ys:=by
 have:=au.cons D (au.nil (X:=X) (w:=w))
 rwa [List.append_nil] at this
theorem au.app:∀ {l m:List Nd} {xs ys:List Value},au X w l xs→au X w m ys→au X w (l++m) (xs++ys)
 | [],m,xs,ys,D,I=>by unfold au at D;subst D;exact I
 | n::l,m,xs,ys,D,I=>by unfold au at D;obtain ⟨us,bs,rfl,K,J⟩:=D;rw [List.append_assoc];exact au.cons K (au.app J I)
theorem au.get:∀ {l:List Nd} {xs:List Value} (i:Nat) (D:i<l.length),au X w l xs→∃ ys,bK X w l[i] ys∧(∀ j,j<4→xs[i * 4+j]? = ys[j]?)
 | [],xs,i,D,h=>absurd D (by simp)
 | n::l,xs,0,D,h=>by unfold au at h;obtain ⟨ys,zs,rfl,I,J⟩:=h;refine ⟨ys,I,fun j hj=>?_⟩;rw [List.getElem?_append_left (by rw [I.len];omega)];simp
 | n::l,xs,i+1,D,h=>by unfold au at h;obtain ⟨ys,zs,rfl,I,J⟩:=h;obtain ⟨us,M,K⟩:=au.get i (by simpa using D) J;refine ⟨us,M,fun j hj=>?_⟩;rw [List.getElem?_append_right (by rw [I.len];omega),I.len,show (i+1) * 4+j-4=i * 4+j by omega];exact K j hj
theorem au.split:∀ {l:List Nd} {xs:List Value} (k:Nat),au X w l xs→au X w (l.take k) (xs.take (k * 4))∧au X w (l.drop k) (xs.drop (k * 4))
 | l,xs,0,h=>by simpa using ⟨au.nil,h⟩
 | [],xs,k+1,h=>by unfold au at h;subst h;constructor <;> simpa using au.nil
 | n::l,xs,k+1,h=>by unfold au at h;obtain ⟨ys,zs,rfl,D,K⟩:=h;obtain ⟨J,I⟩:=au.split k K;(have N:(ys++zs).take ((k+1) * 4)=ys++zs.take (k * 4):=by rw [List.take_append,D.len,List.take_of_length_le (by rw [D.len];omega),show (k+1) * 4-4=k * 4 by omega]);(have M:(ys++zs).drop ((k+1) * 4)=zs.drop (k * 4):=by rw [List.drop_append,D.len,List.drop_of_length_le (by rw [D.len];omega),show (k+1) * 4-4=k * 4 by omega,List.nil_append]);rw [N,M,List.take_succ_cons,List.drop_succ_cons];exact ⟨au.cons D J,I⟩
def ai (X:Nat→Prop) (w:World) (v:Value) (n:Nd):Prop:=
 ∃ A cap xs,v=.agg #[.int .i64 n.kind,.string n.text,.slice A n.kids.length cap,.int .i64 n.pos]∧n.kids.length≤cap∧dk X w 4 A n.kids.length xs∧au X w n.kids xs
theorem ai.toC {v:Value} {n:Nd} (h:ai X w v n):∃ A cap,v=.agg #[.int .i64 n.kind,.string n.text,.slice A n.kids.length cap,.int .i64 n.pos]∧bK X w n [.int .i64 n.kind,.string n.text,.slice A n.kids.length cap,.int .i64 n.pos]:=by obtain ⟨A,cap,xs,e,J,I,D⟩:=h;refine ⟨A,cap,e,?_⟩;cases n;unfold bK;exact ⟨A,cap,xs,rfl,J,I,D⟩
theorem bK.toV {n:Nd} {cs:List Value} (h:bK X w n cs):∃ A cap xs,cs=[.int .i64 n.kind,.string n.text,.slice A n.kids.length cap,.int .i64 n.pos]∧n.kids.length≤cap∧dk X w 4 A n.kids.length xs∧au X w n.kids xs:=by cases n;unfold bK at h;exact h
theorem ai.mono {v:Value} {n:Nd} (D:∀ b,X b→b<w.heap.size→Y b) (h:ai X w v n):ai Y w v n:=by obtain ⟨A,cap,xs,e,K,J,I⟩:=h;exact ⟨A,cap,xs,e,K,J.mono D (by omega),I.mono D⟩
theorem ai.keep {v:Value} {n:Nd} (D:∀ b,X b→b<w.heap.size→w'.heap[b]? = w.heap[b]?) (h:ai X w v n):ai X w' v n:=by obtain ⟨A,cap,xs,e,K,J,I⟩:=h;exact ⟨A,cap,xs,e,K,J.keep D,I.keep D⟩
theorem ai.zero:ai X w (.agg #[.int .i64 0,.string ⟨#[]⟩,.slice none 0 0,.int .i64 0]) eG:=
 ⟨none,0,[],rfl,Nat.le_refl _,⟨rfl,fun h=>absurd h (by simp [eG])⟩,au.nil⟩
end
abbrev nv (n:Nd) (A:Option Addr) (c:Nat):Array Value:=#[.int .i64 n.kind,.string n.text,.slice A n.kids.length c,.int .i64 n.pos]
structure Wd (S:World→Prop) where
 wd:World
 ok:S wd
theorem ex {P:Program} (S:World→Prop) {id:Nat} {Q:Exit→Act→World→Prop} {a:Act} {w:World} {l:List Oper} (D:P.follows .mixedOrders=true) (hB:Region.lexB .any l.toArray=true) (I:S w.drew)
  (h:wpQuiet P l.toArray (fun w'=>∃ n:Wd S,w'=n.wd) (fun a'=>∀ n:Wd S,Q .normal a' n.wd) l a):(Code.region id l.toArray true).wp P Q a w:=
 wp_region_quiet (C:=fun w'=>∃ n:Wd S,w'=n.wd) D hB ⟨⟨w.drew,I⟩,rfl⟩ (by (have e:(fun a'=>∀ w',(∃ n:Wd S,w'=n.wd)→Q .normal a' w')=fun a'=>∀ n:Wd S,Q .normal a' n.wd:=by funext a';exact propext ⟨fun h n=>h _ ⟨n,rfl⟩,fun h w' ⟨n,e⟩=>e▸h n⟩);rw [e];simpa using h)
instance (w:World):Nonempty (Wd (Below w.heap.size w)):=⟨⟨w,Below.refl _ _⟩⟩
theorem dl (W:World) {P:Program} {id:Nat} {Q:Exit→Act→World→Prop} {a:Act} {l:List Oper}
 (h:wpQuiet P l.toArray (fun w'=>∃ n:Wd (Below W.heap.size W),w'=n.wd) (fun a'=>∀ n:Wd (Below W.heap.size W),Q .normal a' n.wd) l a) (D:P.follows .mixedOrders=true:=by kernel_rfl) (hB:Region.lexB .any l.toArray=true:=by kernel_rfl) :
 (Code.region id l.toArray true).wp P Q a W:=ex (Below W.heap.size W) D hB (Below.refl _ _).drew h
theorem oT {P:Program} {W:World} {f:FuncId} {args:Array Value} {v:Ending} (h:∀ m:Wd (Below W.heap.size W),Calls P f args m.wd fun e w'=>e=v∧Below m.wd.heap.size m.wd w') (m:Wd (Below W.heap.size W)):Calls P f args m.wd fun e w'=>e=v∧∃ m':Wd (Below W.heap.size W),w'=m'.wd:=
 (h m).mono (fun _ w' ⟨D,hb⟩=>⟨D,⟨w',am m.ok hb⟩,rfl⟩)
end
section
open Go.RowKit Go.ChangeShapes Go.WideShapes Go.Deep
section
variable {H:Type} {enc:TypeId × Value→H} {P:Program} {w:World} {base:Nat} {spare:Nat→Bool} {held:Bool}
end
theorem ov {α:Type} {P:Nat→α→Prop} : ∀ n:Nat,(∀ i,i<n→∃ x,P i x)→∃ l:List α,l.length=n∧∀ i (h:i<l.length),P i l[i]
 | 0,_=>⟨[],rfl,fun i h=>absurd h (by simp)⟩
 | n+1,h=>by
  obtain ⟨l,D,J⟩:=ov n (fun i hi=>h i (by omega));obtain ⟨x,I⟩:=h n (by omega);refine ⟨l++[x],by simp [D],fun i hi=>?_⟩;by_cases e:i<l.length
  ·rw [List.getElem_append_left e];exact J i e
  ·(have:i=n:=by simp at hi;omega);subst this;rw [List.getElem_append_right (by omega)];simpa [D] using I
theorem pd {α:Type} {enc:α→List Value} {sz:Nat} {w:World} {a:Addr} {n:Nat} {l:List α} (hs:∀ x,(enc x).length=sz) (K:0<sz) (N:l.length=n)
  (J:∀ i (h:i<l.length) j u,(enc l[i])[j]? = some u→w.cell? (a.add (i * sz+j))=some u):bB w w.heap.size sz (some a) n (l.flatMap enc):=by
 refine ⟨by rw [m8 hs,N],fun I=>⟨a,rfl,?_,fun j u D=>?_⟩⟩
 ·(have U:0<l.length:=by omega);have D:(enc l[0])[0]? = some ((enc l[0])[0]'(by rw [hs];exact K)):=List.getElem?_eq_getElem _;have:=World.block_lt_of_cell? w _ (J 0 U 0 _ D)
  rwa [lg] at this
 ·have q:j<l.length * sz:=by
   have:=(List.getElem?_eq_some_iff.1 D).1
   rwa [m8 hs] at this
  have hb:j / sz<l.length:=Nat.div_lt_of_lt_mul (by rw [Nat.mul_comm];exact q);have O:j % sz<sz:=Nat.mod_lt _ K;have e:=iN hs l (j / sz) (j % sz) hb O;(have M:j / sz * sz+j % sz=j:=by rw [Nat.div_mul_self_eq_mod_sub_self,Nat.sub_add_cancel (Nat.mod_le j sz)]);rw [M] at e;have:=J (j / sz) hb (j % sz) u (by rw [←e];exact D)
  rwa [M] at this
section
variable {H:Type} {P:Program}
end
end
section
open Go.ChangeShapes Go.WideShapes Go.ChangeAt Go.RowKit
theorem Ei:laidOutB Tryz.prog=true:=by kernel_rfl
theorem own:ownKnob Tryz.prog.godebug=none:=by kernel_rfl
section
variable {H:Type} {enc:TypeId × Value→H}
theorem mz {W W':World} (hb:Below W.heap.size W W'):∀ {ts:List TypeId} {vs:List Value} {ds:List (DataW H)} {ps:List MemPlace},(∀ t∈ts,Tryz.prog.readableRec t=true∧t<Tryz.prog.types.size) →
  DataW.TrodAll enc Tryz.prog W 0 (fun _=>true) true ts vs ds ps→(∀ x∈ps,x.block<W.heap.size)→DataW.TrodAll enc Tryz.prog W' 0 (fun b=>decide (b<W.heap.size)) true ts vs ds ps
 | [],vs,ds,ps,_,h,_=>by obtain ⟨rfl,rfl,rfl⟩:=trodAll_nil h;exact trodAll_mk0
 | t::ts,vs,ds,ps,I,h,J=>by obtain ⟨v,vs',d,ds',p,q,rfl,rfl,rfl,M,K⟩:=trodAll_cons h;have D:=I t (by simp);exact trodAll_cons_mk (Below.trod Ei D.1 D.2 M hb (fun x hx=>J x (by simp [hx]))) (mz hb (fun t' ht'=>I t' (by simp [ht'])) K (fun x hx=>J x (by simp [hx])))
theorem BF {fn:Func} {s:ChangeSpec} {W W':World} {args:Array Value} {ds gs:List (DataW H)} {before:List MemPlace} {fresh handsOn:Bool}
  (O:DataW.Whole enc Tryz.prog fn.params.toList s.vars false W args.toList ds gs before) (U:s.vars=[])
  (J:(s.fn H (ds++[])).results=[.lit (.bool true)]) (I:(s.fn H (ds++[])).args=ds) (D:(s.fn H (ds++[])).vars=[])
  (K:fn.resultTypes = #[4]) (u:∀ t∈fn.params.toList,Tryz.prog.readableRec t=true∧t<Tryz.prog.types.size) (hb:Below W.heap.size W W') :
  s.post enc Tryz.prog fn false fresh handsOn false W args (.bool true) W':=by
 have M:=O.lt;have N:=O;obtain ⟨p,q,hA,j,rfl,gb,ga⟩:=O;rw [U] at j;obtain ⟨rfl,rfl⟩:=trodVars_none j;refine ⟨ds,[],p++[],[],p,[],N,?_,?_,?_,hb.frame _,fun h=>by cases h⟩
 ·rw [J,K];exact trodAll_cons_mk (shut_bool Tryz.underlying4 true) trodAll_mk0
 ·rw [I];exact mz hb u hA (fun x hx=>M x (by simp [hx]))
 ·rw [U,D];rfl
end
end
end Go.Proofs.YtiebcdeafofgdaaGreatDoor
namespace Go.Proofs
section
open Go.Shelf
def Tryz.laysDecode_ren:Go.Shelf.Ren:=⟨fun | 32=>94 | 49=>140 | n=>n,fun | 30=>27 | 21=>21 | 3=>3 | 0=>0 | 5=>5 | 4=>4 | 33=>99 | 66=>149 | 25=>150 | 69=>153 | 68=>152 | n=>n,fun | 2=>0 | 3=>1 | n=>n⟩
theorem Tryz.laysDecode:Go.Proofs.Lays7.n32 Tryz.prog Tryz.laysDecode_ren := {
 mixed:=by kernel_rfl
 f32:=Tryz.func94.trans (congrArg some (by kernel_rfl))
 f49:=Tryz.func140.trans (congrArg some (by kernel_rfl))
 t0:=Tryz.underlying0
 a0:=Tryz.isAgg0
 z0:=Tryz.sizeOf0
 v0:=Tryz.zeroValue0
 i0:=by kernel_rfl
 t3:=Tryz.underlying3
 a3:=Tryz.isAgg3
 z3:=Tryz.sizeOf3
 v3:=Tryz.zeroValue3
 i3:=by kernel_rfl
 t4:=Tryz.underlying4
 a4:=Tryz.isAgg4
 z4:=Tryz.sizeOf4
 v4:=Tryz.zeroValue4
 i4:=by kernel_rfl
 t5:=Tryz.underlying5
 a5:=Tryz.isAgg5
 z5:=Tryz.sizeOf5
 v5:=Tryz.zeroValue5
 i5:=by kernel_rfl
 t21:=Tryz.underlying21
 a21:=Tryz.isAgg21
 z21:=Tryz.sizeOf21
 v21:=Tryz.zeroValue21
 i21:=by kernel_rfl
 t25:=Tryz.underlying150
 a25:=Tryz.isAgg150
 z25:=Tryz.sizeOf150
 v25:=Tryz.zeroValue150
 i25:=by kernel_rfl
 t30:=Tryz.underlying27
 a30:=Tryz.isAgg27
 z30:=Tryz.sizeOf27
 v30:=Tryz.zeroValue27
 i30:=by kernel_rfl
 t33:=Tryz.underlying99
 a33:=Tryz.isAgg99
 z33:=Tryz.sizeOf99
 v33:=Tryz.zeroValue99
 i33:=by kernel_rfl
 t66:=Tryz.underlying149
 a66:=Tryz.isAgg149
 z66:=Tryz.sizeOf149
 t68:=Tryz.underlying152
 a68:=Tryz.isAgg152
 z68:=Tryz.sizeOf152
 v68:=Tryz.zeroValue152
 i68:=by kernel_rfl
 t69:=Tryz.underlying153
 a69:=Tryz.isAgg153
 z69:=Tryz.sizeOf153
 v69:=Tryz.zeroValue153
 i69:=by kernel_rfl
 g2:=by kernel_rfl
 g3:=by kernel_rfl }
def Tryz.laysContains_ren:Go.Shelf.Ren:=⟨fun | 144=>78 | 143=>108 | 219=>144 | 217=>149 | 225=>191 | 224=>192 | 267=>193 | 266=>198 | 314=>225 | n=>n,fun | 9=>9 | 4=>4 | 3=>3 | 5=>5 | 46=>150 | 146=>175 | 51=>174 | n=>n,fun | 1=>2 | n=>n⟩
theorem Tryz.laysContains:Go.Proofs.Lays.n144 Tryz.prog Tryz.laysContains_ren := {
 mixed:=by kernel_rfl
 f143:=Tryz.func108.trans (congrArg some (by kernel_rfl))
 f144:=Tryz.func78.trans (congrArg some (by kernel_rfl))
 f217:=Tryz.func149.trans (congrArg some (by kernel_rfl))
 f219:=Tryz.func144.trans (congrArg some (by kernel_rfl))
 f224:=Tryz.func192.trans (congrArg some (by kernel_rfl))
 f225:=Tryz.func191.trans (congrArg some (by kernel_rfl))
 f266:=Tryz.func198.trans (congrArg some (by kernel_rfl))
 f267:=Tryz.func193.trans (congrArg some (by kernel_rfl))
 f314:=Tryz.func225.trans (congrArg some (by kernel_rfl))
 t3:=Tryz.underlying3
 a3:=Tryz.isAgg3
 z3:=Tryz.sizeOf3
 v3:=Tryz.zeroValue3
 t4:=Tryz.underlying4
 a4:=Tryz.isAgg4
 z4:=Tryz.sizeOf4
 v4:=Tryz.zeroValue4
 t5:=Tryz.underlying5
 a5:=Tryz.isAgg5
 z5:=Tryz.sizeOf5
 v5:=Tryz.zeroValue5
 t9:=Tryz.underlying9
 a9:=Tryz.isAgg9
 z9:=Tryz.sizeOf9
 v9:=Tryz.zeroValue9
 t46:=Tryz.underlying150
 a46:=Tryz.isAgg150
 z46:=Tryz.sizeOf150
 v46:=Tryz.zeroValue150
 t51:=Tryz.underlying174
 a51:=Tryz.isAgg174
 z51:=Tryz.sizeOf174
 v51:=Tryz.zeroValue174
 t146:=Tryz.underlying175
 a146:=Tryz.isAgg175
 z146:=Tryz.sizeOf175
 v146:=Tryz.zeroValue175
 g1:=by kernel_rfl }
def Tryz.laysCut_ren:Go.Shelf.Ren:=⟨fun | 145=>215 | 220=>231 | 219=>144 | 217=>149 | 225=>191 | 224=>192 | 267=>193 | 266=>198 | 314=>225 | n=>n,fun | 9=>9 | 4=>4 | 59=>164 | 3=>3 | 5=>5 | 46=>150 | 146=>175 | 51=>174 | n=>n,fun | 1=>2 | n=>n⟩
theorem Tryz.laysCut:Go.Proofs.Lays.n145 Tryz.prog Tryz.laysCut_ren := {
 mixed:=by kernel_rfl
 f145:=Tryz.func215.trans (congrArg some (by kernel_rfl))
 f217:=Tryz.func149.trans (congrArg some (by kernel_rfl))
 f219:=Tryz.func144.trans (congrArg some (by kernel_rfl))
 f220:=Tryz.func231.trans (congrArg some (by kernel_rfl))
 f224:=Tryz.func192.trans (congrArg some (by kernel_rfl))
 f225:=Tryz.func191.trans (congrArg some (by kernel_rfl))
 f266:=Tryz.func198.trans (congrArg some (by kernel_rfl))
 f267:=Tryz.func193.trans (congrArg some (by kernel_rfl))
 f314:=Tryz.func225.trans (congrArg some (by kernel_rfl))
 t3:=Tryz.underlying3
 a3:=Tryz.isAgg3
 z3:=Tryz.sizeOf3
 v3:=Tryz.zeroValue3
 t4:=Tryz.underlying4
 a4:=Tryz.isAgg4
 z4:=Tryz.sizeOf4
 v4:=Tryz.zeroValue4
 t5:=Tryz.underlying5
 a5:=Tryz.isAgg5
 z5:=Tryz.sizeOf5
 v5:=Tryz.zeroValue5
 t9:=Tryz.underlying9
 a9:=Tryz.isAgg9
 z9:=Tryz.sizeOf9
 v9:=Tryz.zeroValue9
 t46:=Tryz.underlying150
 a46:=Tryz.isAgg150
 z46:=Tryz.sizeOf150
 v46:=Tryz.zeroValue150
 t51:=Tryz.underlying174
 a51:=Tryz.isAgg174
 z51:=Tryz.sizeOf174
 v51:=Tryz.zeroValue174
 t59:=Tryz.underlying164
 a59:=Tryz.isAgg164
 z59:=Tryz.sizeOf164
 v59:=Tryz.zeroValue164
 t146:=Tryz.underlying175
 a146:=Tryz.isAgg175
 z146:=Tryz.sizeOf175
 v146:=Tryz.zeroValue175
 g1:=by kernel_rfl }
def Tryz.laysPrefix_ren:Go.Shelf.Ren:=⟨fun | 99=>95 | 206=>141 | n=>n,fun | 9=>9 | 4=>4 | 3=>3 | n=>n,fun | n=>n⟩
theorem Tryz.laysPrefix:Go.Proofs.Lays.n99 Tryz.prog Tryz.laysPrefix_ren := {
 mixed:=by kernel_rfl
 f99:=Tryz.func95.trans (congrArg some (by kernel_rfl))
 f206:=Tryz.func141.trans (congrArg some (by kernel_rfl))
 t3:=Tryz.underlying3
 a3:=Tryz.isAgg3
 z3:=Tryz.sizeOf3
 v3:=Tryz.zeroValue3
 t4:=Tryz.underlying4
 a4:=Tryz.isAgg4
 z4:=Tryz.sizeOf4
 v4:=Tryz.zeroValue4
 t9:=Tryz.underlying9
 a9:=Tryz.isAgg9
 z9:=Tryz.sizeOf9
 v9:=Tryz.zeroValue9 }
def Tryz.laysIndexByte_ren:Go.Shelf.Ren:=⟨fun | 137=>115 | 217=>149 | 266=>198 | n=>n,fun | 9=>9 | 5=>5 | 3=>3 | n=>n,fun | n=>n⟩
theorem Tryz.laysIndexByte:Go.Proofs.Lays.n137 Tryz.prog Tryz.laysIndexByte_ren := {
 mixed:=by kernel_rfl
 f137:=Tryz.func115.trans (congrArg some (by kernel_rfl))
 f217:=Tryz.func149.trans (congrArg some (by kernel_rfl))
 f266:=Tryz.func198.trans (congrArg some (by kernel_rfl))
 t3:=Tryz.underlying3
 a3:=Tryz.isAgg3
 z3:=Tryz.sizeOf3
 v3:=Tryz.zeroValue3
 t5:=Tryz.underlying5
 a5:=Tryz.isAgg5
 z5:=Tryz.sizeOf5
 v5:=Tryz.zeroValue5
 t9:=Tryz.underlying9
 a9:=Tryz.isAgg9
 z9:=Tryz.sizeOf9
 v9:=Tryz.zeroValue9 }
def Tryz.laysIndex_ren:Go.Shelf.Ren:=⟨fun | 143=>108 | 219=>144 | 217=>149 | 225=>191 | 224=>192 | 267=>193 | 266=>198 | 314=>225 | n=>n,fun | 9=>9 | 3=>3 | 4=>4 | 5=>5 | 46=>150 | 146=>175 | 51=>174 | n=>n,fun | 1=>2 | n=>n⟩
theorem Tryz.laysIndex:Go.Proofs.Lays.n143 Tryz.prog Tryz.laysIndex_ren := {
 mixed:=by kernel_rfl
 f143:=Tryz.func108.trans (congrArg some (by kernel_rfl))
 f217:=Tryz.func149.trans (congrArg some (by kernel_rfl))
 f219:=Tryz.func144.trans (congrArg some (by kernel_rfl))
 f224:=Tryz.func192.trans (congrArg some (by kernel_rfl))
 f225:=Tryz.func191.trans (congrArg some (by kernel_rfl))
 f266:=Tryz.func198.trans (congrArg some (by kernel_rfl))
 f267:=Tryz.func193.trans (congrArg some (by kernel_rfl))
 f314:=Tryz.func225.trans (congrArg some (by kernel_rfl))
 t3:=Tryz.underlying3
 a3:=Tryz.isAgg3
 z3:=Tryz.sizeOf3
 v3:=Tryz.zeroValue3
 t4:=Tryz.underlying4
 a4:=Tryz.isAgg4
 z4:=Tryz.sizeOf4
 v4:=Tryz.zeroValue4
 t5:=Tryz.underlying5
 a5:=Tryz.isAgg5
 z5:=Tryz.sizeOf5
 v5:=Tryz.zeroValue5
 t9:=Tryz.underlying9
 a9:=Tryz.isAgg9
 z9:=Tryz.sizeOf9
 v9:=Tryz.zeroValue9
 t46:=Tryz.underlying150
 a46:=Tryz.isAgg150
 z46:=Tryz.sizeOf150
 v46:=Tryz.zeroValue150
 t51:=Tryz.underlying174
 a51:=Tryz.isAgg174
 z51:=Tryz.sizeOf174
 v51:=Tryz.zeroValue174
 t146:=Tryz.underlying175
 a146:=Tryz.isAgg175
 z146:=Tryz.sizeOf175
 v146:=Tryz.zeroValue175
 g1:=by kernel_rfl }
end
end Go.Proofs
namespace Go.Proofs.YtiebcdeafofgdaaGreatDoor
section
def dZ (c:Nat):Option Nat:=
 if 48≤c∧c≤57 then some (c-48) else if 97≤c∧c≤102 then some (c-87) else if 65≤c∧c≤70 then some (c-55) else none
def pe:List UInt8→Nat × List UInt8
 | []=>(10,[])
 | [a]=>(10,[a])
 | a::b::r=>
  if a.toNat=48 then
   if b.toNat=120∨b.toNat=88 then (16,r)
   else if b.toNat=98∨b.toNat=66 then (2,r)
   else if b.toNat=111∨b.toNat=79 then (8,r)
   else (8,b::r)
  else (10,a::b::r)
def eN (m:Nat):List Nat:=if m=0 then [] else if m<10 then [m] else [m % 10,m / 10]
def cI (f:Nat):List Nat→Nat→List Nat
 | [],m=>eN m
 | x::r,m=>(x * f+m) % 10::cI f r ((x * f+m) / 10)
def dX (radix:Nat):List UInt8→List Nat→Bool→Nat→Option (List Nat × Bool × Nat)
 | [],v,line,many=>some (v,line,many)
 | c::r,v,line,many=>
  if c.toNat=95∧line=false then dX radix r v true many
  else match dZ c.toNat with
   | none=>none
   | some d=>if d<radix then dX radix r (cI radix v d) false (many+1) else none
def mg (v:List Nat):ByteArray:=⟨((if v=[] then [0] else v.reverse).map fun d=>UInt8.ofNat (48+d)).toArray⟩
def fk (s:ByteArray):Option ByteArray:=
 if 200<s.size then none else
 let b:=pe s.data.toList
 if b.1=10∧(b.2=[]∨(b.2.headD 0).toNat=95) then none else
 match dX b.1 b.2 [] false 0 with
 | none=>none
 | some (v,line,many)=>if line=true∨many=0∨(b.1=10∧1<many∧(b.2.headD 0).toNat=48) then none else some (mg v)
def ew (s:ByteArray):Nat→Nat→Option Nat
 | 0,_=>none
 | g+1,i=>
  if i<s.size then
   if (Utf8.decode s i).1=0∨((Utf8.decode s i).1=65533∧(Utf8.decode s i).2=1)∨((Utf8.decode s i).1=65279∧0<i) then some i
   else ew s g (i+(Utf8.decode s i).2)
  else none
def io (s:ByteArray):Option Nat:=ew s s.size 0
def oP (radix:Nat):List UInt8→Nat→Option Nat
 | [],v=>some v
 | c::r,v=>match dZ c.toNat with
   | none=>none
   | some d=>if d<radix then oP radix r (v * radix+d) else none
def mh (s:List UInt8) (n radix:Nat):Option Nat:=if n≤s.length then oP radix (s.take n) 0 else none
def sj (c:Nat):Option Nat:=
 if c=97 then some 7 else if c=98 then some 8 else if c=102 then some 12 else if c=110 then some 10 else if c=114 then some 13
 else if c=116 then some 9 else if c=118 then some 11 else if c=92 then some 92 else if c=34 then some 34 else none
def BG:List UInt8→Option (List UInt8 × Nat)
 | []=>none
 | c::r=>
  match sj c.toNat with
  | some v=>some ([UInt8.ofNat v],1)
  | none=>
   if c.toNat=120 then (mh r 2 16).map fun v=>([UInt8.ofNat v],3)
   else if c.toNat=117 then (mh r 4 16).bind fun v=>if Utf8.valid (v:Int)=true then some ((Utf8.encode (v:Int)).data.toList,5) else none
   else if c.toNat=85 then (mh r 8 16).bind fun v=>if Utf8.valid (v:Int)=true then some ((Utf8.encode (v:Int)).data.toList,9) else none
   else (mh (c::r) 3 8).bind fun v=>if v≤255 then some ([UInt8.ofNat v],3) else none
def fl:Nat→List UInt8→Option (List UInt8)
 | 0,_=>none
 | _+1,[]=>some []
 | g+1,c::r=>
  if c.toNat=92 then (BG r).bind fun p=>(fl g (r.drop p.2)).map fun t=>p.1++t
  else if c.toNat=34∨c.toNat=10 then none
  else (fl g r).map fun t=>c::t
def m9 (s:ByteArray):Option ByteArray:=
 if 65536<s.size then none
 else if s.size<2∨s.data.toList.head? ≠ s.data.toList.getLast? then none
 else if io s≠none then none
 else if (s.data.toList.headD 0).toNat=34 then (fl (s.size+1) (s.data.toList.extract 1 (s.size-1))).map fun l=>⟨l.toArray⟩
 else if (s.data.toList.headD 0).toNat=96 then
  if (s.data.toList.extract 1 (s.size-1)).any (fun c=>c.toNat==96) then none
  else some ⟨((s.data.toList.extract 1 (s.size-1)).filter fun c=>c.toNat != 13).toArray⟩
 else none
structure cK where
 kind:Int
 text:ByteArray
 pos:Int
structure Cx where
 toks:List cK
 fin:Int
structure St where
 at_:Nat
 head:Bool
 part:Int
inductive mI (α:Type) where
 | ok (a:α) (s:St)
 | fail (p:Int)
 | out
def R (α:Type):=Cx→St→mI α
def mI.bind {α β:Type} (r:mI α) (f:α→St→mI β):mI β:=
 match r with
 | .ok a s=>f a s
 | .fail p=>.fail p
 | .out=>.out
@[simp] theorem mI.bind_ok {α β:Type} (a:α) (s:St) (f:α→St→mI β):(mI.ok a s).bind f=f a s:=rfl
@[simp] theorem mI.bind_fail {α β:Type} (p:Int) (f:α→St→mI β):(mI.fail p:mI α).bind f=.fail p:=rfl
def aE (c:Cx) (i:Nat):cK:=
 match c.toks[i]? with
 | some t=>t
 | none=>⟨0,⟨#[]⟩,c.fin⟩
def IE (t:cK) (x:ByteArray):Bool:=(t.kind==2||t.kind==6)&&decide (t.text=x)
def cm (c:Cx) (s:St) (x:ByteArray):Bool:=IE (aE c s.at_) x
def ba (s:St):St := { s with at_:=s.at_+1 }
def bz (c:Cx) (s:St):Int:=(aE c s.at_).pos
def mv (x:ByteArray):R Unit:=fun c s=>if cm c s x then .ok () (ba s) else .fail (bz c s)
def fw:R ByteArray:=fun c s=>if (aE c s.at_).kind=1 then .ok (aE c s.at_).text (ba s) else .fail (bz c s)
def eh (c:Cx) (s:St):Bool:=cm c s (⟨#[59]⟩:BA)||cm c s (⟨#[10]⟩:BA)
def ip (c:Cx) (s:St):St:=if eh c s then ba s else s
def fa (c:Cx) (s:St):Bool:=cm c s (⟨#[91]⟩:BA)&&(match c.toks[s.at_+1]? with | some t=>t.kind==6&&decide (t.text=(⟨#[93]⟩:BA)) | none=>false)
def ci (part:R Nd) (en:ByteArray):Nat→List Nd→R (List Nd)
 | 0,_=>fun _ _=>.out
 | g+1,acc=>fun c s=>
  if cm c s en then .ok acc (ba s) else
  (part c s).bind fun n s1=>
  if cm c s1 en then .ok (acc++[n]) (ba s1) else
  (mv (⟨#[44]⟩:BA) c s1).bind fun _ s2=>ci part en g (acc++[n]) c s2
def dY {α:Type} (part:R α):R α:=fun c s=>(part c { s with head:=false }).bind fun a s1=>.ok a { s1 with head:=s.head }
def sk (c:Cx) (s:St):Bool:=(aE c s.at_).kind==1||(cm c s (⟨#[91]⟩:BA)||(cm c s (⟨#[40]⟩:BA)||cm c s (⟨#[102,117,110,99]⟩:BA)))
structure oM where
 g:Nat
 typ:R Nd
 expr:R Nd
 unary:R Nd
 stmt:R Nd
section
variable (F:oM)
def fm:R Nd:=fun c s=>if sk c s then F.typ c s else .ok eG s
def eO:R Nd:=fun c s=>(fw c s).bind fun x s1=>(F.typ c s1).bind fun t s2=>.ok (.mk 8 x [t] (bz c s)) s2
def rj (p:Int):R Nd:=fun c s=>
 (mv (⟨#[40]⟩:BA) c s).bind fun _ s1=>(ci (eO F) (⟨#[41]⟩:BA) F.g [] c s1).bind fun l s2=>
 (fm F c s2).bind fun r s3=>.ok (.mk 12 (⟨#[]⟩:BA) [.mk 6 (⟨#[]⟩:BA) l (bz c s),r] p) s3
def uN:R Nd:=fun c s=>
 if cm c s (⟨#[40]⟩:BA) then .out
 else if cm c s (⟨#[91]⟩:BA) then .out
 else if cm c s (⟨#[102,117,110,99]⟩:BA) then .out
 else (fw c s).bind fun x s1=>
  if cm c s1 (⟨#[91]⟩:BA) && !fa c s1 then .out
  else .ok (.mk 10 x [] (bz c s)) s1
def fP:R Nd:=fun c s=>
 if cm c s (⟨#[91]⟩:BA) && !fa c s then .out
 else .ok (.mk 6 (⟨#[]⟩:BA) [] 0) s
def cx (p:Int):Nat→List Nd→R Nd
 | 0,_=>fun _ _=>.out
 | g+1,acc=>fun c s=>
  if cm c s (⟨#[125]⟩:BA) then .ok (.mk 36 (⟨#[]⟩:BA) acc p) (ba s)
  else if eh c s then cx p g acc c (ba s)
  else (F.stmt c s).bind fun n s1=>
   if eh c s1 then cx p g (acc++[n]) c (ba s1)
   else if cm c s1 (⟨#[125]⟩:BA) then cx p g (acc++[n]) c s1
   else .fail (bz c s1)
def li:R Nd:=fun c s=>(mv (⟨#[123]⟩:BA) c s).bind fun _ s1=>cx F (bz c s) F.g [] c s1
def lM:R Nd:=dY (li F)
def ow:R Nd:=fun c s=>
 if cm c s (⟨#[102,117,110,99]⟩:BA) then
  (fw c (ba s)).bind fun x s1=>(fP c s1).bind fun ps s2=>(rj F (bz c s) c s2).bind fun sg s3=>(lM F c s3).bind fun b s4=>.ok (.mk 2 x [ps,sg,b] (bz c s)) s4
 else .out
def BH:R Nd:=fun c s=>
 if cm c s (⟨#[118,97,114]⟩:BA) then .out
 else if cm c s (⟨#[105,102]⟩:BA) then .out
 else if cm c s (⟨#[102,111,114]⟩:BA) then .out
 else if cm c s (⟨#[123]⟩:BA) then .out
 else if cm c s (⟨#[114,101,116,117,114,110]⟩:BA) then
  if eh c (ba s)||cm c (ba s) (⟨#[125]⟩:BA) then .out
  else (F.expr c (ba s)).bind fun x s1=>.ok (.mk 33 (⟨#[]⟩:BA) [x] (bz c s)) s1
 else .out
def cZ:R Nd:=fun c s=>F.expr c { s with part:=s.at_ }
def lj (s:ByteArray):ByteArray:=(fk s).getD (⟨#[]⟩:BA)
def iO:R (Nd × Bool):=fun c s=>
 if (aE c s.at_).kind=1 then .ok (.mk 18 (aE c s.at_).text [] (aE c s.at_).pos,true) (ba { s with part := -1 })
 else if (aE c s.at_).kind=4 then .ok (.mk 16 (lj (aE c s.at_).text) [] (aE c s.at_).pos,false) (ba { s with part := -1 })
 else .out
def bu:Nat→Nd→Bool→R Nd
 | 0,_,_=>fun _ _=>.out
 | g+1,out,bare=>fun c s=>
  if cm c s (⟨#[40]⟩:BA) then (dY (ci F.expr (⟨#[41]⟩:BA) F.g []) c (ba s)).bind fun l s1=>bu g (.mk 21 (⟨#[]⟩:BA) (out::l) out.pos) false c s1
  else if cm c s (⟨#[91]⟩:BA) then (dY (ci (cZ F) (⟨#[93]⟩:BA) F.g []) c (ba s)).bind fun l s1=>
   if l.length=0 then .out else bu g (.mk 22 (⟨#[]⟩:BA) (out::l) out.pos) bare c s1
  else if cm c s (⟨#[46]⟩:BA) then .out
  else if cm c s (⟨#[123]⟩:BA)&&(bare && !s.head) then .out
  else .ok out s
def iP:R Nd:=fun c s=>(iO c s).bind fun x s1=>bu F F.g x.1 x.2 c s1
def mJ:R Nd:=fun c s=>
 if cm c s (⟨#[45]⟩:BA)||cm c s (⟨#[33]⟩:BA) then (F.unary c (ba s)).bind fun x s1=>.ok (.mk 19 (aE c s.at_).text [x] (bz c s)) s1
 else iP F c s
def uO:Nat→List ByteArray
 | 5=>[(⟨#[124,124]⟩:BA)]
 | 4=>[(⟨#[38,38]⟩:BA)]
 | 3=>[(⟨#[61,61]⟩:BA),(⟨#[33,61]⟩:BA),(⟨#[60]⟩:BA),(⟨#[60,61]⟩:BA),(⟨#[62]⟩:BA),(⟨#[62,61]⟩:BA)]
 | 2=>[(⟨#[43]⟩:BA),(⟨#[45]⟩:BA)]
 | _=>[(⟨#[42]⟩:BA),(⟨#[47]⟩:BA),(⟨#[37]⟩:BA)]
def IF (k:Nat) (t:cK):Bool:=t.kind==6&&(uO k).any fun x=>decide (t.text=x)
def oy (k:Nat) (below:R Nd):Nat→Nd→R Nd
 | 0,_=>fun _ _=>.out
 | g+1,out=>fun c s=>
  if IF k (aE c s.at_) then (below c (ba s)).bind fun y s1=>oy k below g (.mk 20 (aE c s.at_).text [out,y] out.pos) c s1
  else .ok out s
def lk:Nat→R Nd
 | 0=>mJ F
 | k+1=>fun c s=>(lk k c s).bind fun x s1=>oy (k+1) (lk k) F.g x c s1
def BI:R Nd:=lk F 5
def fI (p:Int) (x:ByteArray):Nat→List Nd→R Nd
 | 0,_=>fun _ _=>.out
 | g+1,acc=>fun c s=>
  if eh c s then
   if s.at_+1=c.toks.length then .ok (.mk 1 x acc p) (ba s)
   else if cm c (ba s) (⟨#[102,117,110,99]⟩:BA)||(cm c (ba s) (⟨#[116,121,112,101]⟩:BA)||cm c (ba s) (⟨#[118,97,114]⟩:BA)) then (ow F c (ba s)).bind fun d s1=>fI p x g (acc++[d]) c s1
   else .fail (bz c (ba s))
  else .fail (bz c s)
def iQ:R Nd:=fun c s=>(mv (⟨#[112,97,99,107,97,103,101]⟩:BA) c s).bind fun _ s1=>(fw c s1).bind fun x s2=>fI F (bz c s) x F.g [] c s2
end
def Ej:Nat→oM
 | 0=>⟨0,fun _ _=>.out,fun _ _=>.out,fun _ _=>.out,fun _ _=>.out⟩
 | g+1=>⟨g+1,uN,BI (Ej g),mJ (Ej g),BH (Ej g)⟩
end
end Go.Proofs.YtiebcdeafofgdaaGreatDoor
