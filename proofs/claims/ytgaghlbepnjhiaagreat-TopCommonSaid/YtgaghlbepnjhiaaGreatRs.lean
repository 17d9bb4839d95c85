import Derived.Test.YtgaghlbepnjhiaaGreatRk
import Derived.Lib.ConvBytes
import Derived.Laws.BytesString
import Derived.Laws.Cover3
set_option linter.all false
open Go renaming Operand->ba,TypeId->aX,Value->ai
open List renaming flatten_cons->nE,length_map->pZ,map_cons->gC
open Nat renaming le_refl->bw
open Option renaming some->aa
namespace Go.Proofs.YtgaghlbepnjhiaaGreat
open Go Go.RowKit Dp
namespace Rx
section
variable {D:Nat->Type} [∀n,ad (D n)]
variable {P:Program} {T:bc D} {Qx:Exit->Act->World->Prop} {U:Nat->Prop} {ar:Nat} {γ:Gh D} {w:World} {sl:List (Nat×AV D)} {L:List (Nat×ai)} {ob:List (Nat×Option (AO D))}
 {d:Option Tmp} {ty:aX} {pos:String} {af:Array Edge} {gd:Option (Nat×Bool)} {e:de D} {l:List Nat}
def OW.asQ [Rd]{t:aX}{s:ByteArray}{o:ba}(hu:P.underlying t=aa .string)(hx:ev L o=aa (.string s)):
  OW P Qx L ⟨d,.call {callee:= .builtin .len,args:= #[o],argTypes:= #[t]},ty,pos,af,gd⟩ w (λv' w'=>v'= .int .i64 (rj s)∧w'=w):=by
 refine OW.run λa ha=>⟨_,w,?_,rfl,rfl⟩
 simp[execOp,resolve,invoke,builtin,Builtin.len_,run_underlying hu,ha _ _ hx,goInt,rj]
def OW.atK [Rd]{t:aX}{s:ByteArray}{x i:ba}{j c:Int}{ki:IntKind}(hu:P.underlying t=aa .string)(hx:ev L x=aa (.string s))(hi:ev L i=aa (.int ki j))(hc:LK s j=aa c):
  OW P Qx L ⟨d,.index t x i,ty,pos,af,gd⟩ w (λv' w'=>v'= .int .u8 c∧w'=w):=by
 refine OW.run λa ha=>⟨_,w,?_,rfl,rfl⟩
 unfold LK at hc
 split at hc
 case isFalse=>cases hc
 rename_i h0
 split at hc
 case h_2=>cases hc
 rename_i b hb
 cases hc
 have iq:s[j.toNat]? =aa b:=hb
 simp[execOp,Instr.index,asIntOf,run_underlying hu,ha _ _ hx,ha _ _ hi,h0,iq]
def arY [Rd]{t te t2:aX}(hu:P.underlying t=aa (.slice te))(hx:Cx U ar γ w sl L ob){op:BinOp}{x y:ba}{n:Nat}{xs:List (D n)}{K:List Nat}{g:Nat}{p:Bool}(ha:eY sl x=aa (.c (.one (.vb n xs K g p))))(hb:eY sl y=aa (.c (.one .bH)))
  (h:Q.R ob (match op with| .eql=>bZ (bv p (ar+16))| .neq=>bZ (bv (Fp p) (ar+16))|_=>Q.fail) l e):
  OW P Qx L ⟨d,.binOp op t x y t2,ty,pos,af,gd⟩ w (λv w'=>∃γ',dW U ar γ w ob e γ' v w'):=by
 obtain⟨u,h1,h2⟩:=cG hx.sr ha
 obtain⟨v,h3,h4⟩:=cG hx.sr hb
 have h4:v= .slice none 0 0:=h4
 subst h4
 obtain⟨q,cap,rfl,_⟩:=u9 h2.1.1
 have hp:p=T0 (.slice q xs.length cap):=h2.2
 have hr:=run_equal_slice_nil (P:=P) w t te q xs.length cap hu
 have hq:q.isNone=p:=by rw[hp];cases q<;>rfl
 rw[hq]at hr
 have he:(binOp .eql t (.slice q xs.length cap) (.slice none 0 0)).run P w= .ok (.bool p) w:=by simp only[binOp,Sem.run_bind,hr,Result.andThen,Sem.run_pure]
 have hn:(binOp .neq t (.slice q xs.length cap) (.slice none 0 0)).run P w= .ok (.bool (!p)) w:=by simp only[binOp,Sem.run_bind,hr,Result.andThen,Sem.run_pure]
 split at h
 ·obtain⟨_,rfl⟩:=h;exact du (OW.pT h1 h3 (by simp[eqGuard]) he) (er hx rfl)
 ·obtain⟨_,rfl⟩:=h;exact du (OW.pT h1 h3 (by simp[eqGuard]) hn) (er hx rfl)
 ·exact(h:False).elim
def asr{n:Nat}(h:T.lv n=[.int .u8])(x:D n):T.out n x=[⟨.int .u8,tI T n h x⟩]:=by unfold bc.out tI;generalize T.DI n x=y;revert y h;generalize T.lv n=l;intro h;subst h;intro y;rfl
def amY(hR:cK T){n:Nat}(h:T.lv n=[.int .u8])(b:Int):tI T n h (DN T n h b)=b:=by
 unfold tI DN;rw[hR.MI];have:∀(l:List Lf) (e:l=[.int .u8]) (y:HL D [.int .u8]),(e▸(e.symm▸y:HL D l):HL D [.int .u8])=y:=by intro l e y;subst e;rfl
 exact this _ h b
def abz(hR:cK T){n:Nat}(h:T.lv n=[.int .u8]){S:Nat->Prop}{cs:List ai}{x:D n}:ad.rd S w cs x↔cs=[.int .u8 (tI T n h x)]:=by
 rw[hR.rd,asr h];constructor
 ·intro h;match cs,h with
  |[v],h=>rw[show v= .int .u8 _ from h.1]
  |[],h=>exact h.elim
  |_::_::_,h=>exact h.2.elim
 ·rintro rfl;exact⟨rfl,trivial⟩
def aDl [Rd](hR:cK T)(hx:Cx U ar γ w sl L ob){s t te:aX}{n:Nat}{o:ba}{x:ByteArray}{xs:List (D n)}(hs:P.underlying s=aa .string)(ht:P.underlying t=aa (.slice te))(hte:P.underlying te=aa (.int .u8))(nS:T.lv n=[.int .u8])
  (h1:ev L o=aa (.string x)) (eJ:LL (DN T n nS) x=aa xs):
  OW P Qx L ⟨d,.convert s t o,ty,pos,af,gd⟩ w (λv w'=>∃γ',dW U ar γ w ob ⟨.c (.one (.v (.sl n) xs [1] (ar+16))),[],[]⟩ γ' v w'):=by
 unfold LL at eJ
 split at eJ
 case isFalse=>cases eJ
 rename_i eQ
 cases eJ
 refine OW.run λa ha=>⟨.slice (aa ⟨w.heap.size,0,none⟩) x.size (grownCap w x.size 0 te),Lib.bytesWorld w te x,by simp only[execOp,ha _ _ h1,Sem.run_bind,Lib.run_convert_string_bytes w s t te x hs ht hte,Result.andThen,Sem.run_pure],?_⟩
 have b8:bJ [] [ar] γ.o w (grow γ.o w ar) (Lib.bytesWorld w te x):=by refine⟨rfl,rfl,rfl,?_,λb hb=>by simp[grow,hb],λb h1 _=>by simp[grow,Nat.not_lt.2 h1],λb hb _=>Lib.bytesWorld_at_old w te x b hb⟩;rw[Lib.bytesWorld_size];omega
 have sP:=grownCap_ge w x.size 0 te
 have hle:=grownCap_le_maxLen w x.size 0 te (by unfold maxLen;omega)
 have Ea:∀{i:Nat},U i->i≠ar:=λhi h=>hx.fresh ar (bw _) (by omega) (h▸hi)
 have hlen:x.data.toList.length=x.size:=by rw[Array.length_toList];rfl
 have hrv:Rv (In (λb=>rel [(ar,1)] (grow γ.o w ar b)) [1]) (Lib.bytesWorld w te x) (.slice (aa ⟨w.heap.size,0,none⟩) x.size (grownCap w x.size 0 te)) ((x.data.toList.map λb=>DN T n nS (b.toNat:Int)):List (D n)):=by
  refine⟨[_],rfl,aa ⟨w.heap.size,0,none⟩,_,by rw[pZ,hlen],by rw[pZ,hlen];exact sP,hle,.inr ⟨_,x.data.toList.map λb=>[ai.int .u8 (b.toNat:Int)],rfl,?_,?_,?_⟩⟩
  ·show rel [(ar,1)] (grow γ.o w ar w.heap.size)∈[1];rw[sT _ _ _ _ (bw _)];simp[rel,aF]
  ·induction x.data.toList with
   |nil=>trivial
   |cons b l ih=>exact⟨(abz hR nS).2 (by rw[amY hR]),ih⟩
  ·intro j u hj;have eL:∀(l:List UInt8),(l.map λb=>[ai.int .u8 (b.toNat:Int)]).flatten=l.map λb=>ai.int .u8 (b.toNat:Int):=by
    intro l;induction l with
    |nil=>rfl
    |cons b l ih=>simp only[gC,nE,ih];rfl
   rw[eL,List.getElem?_map]at hj;cases hb:x.data.toList[j]? with
   |none=>rw[hb]at hj;cases hj
   |some b=>
    rw[hb]at hj;cases hj;have dt:j<x.size:=by rw[<-hlen];exact(List.getElem?_eq_some_iff.1 hb).1
    have:=Lib.bytesWorld_cell w te x j dt;rw[show(Addr.mk w.heap.size 0 none).add j=⟨w.heap.size,j,none⟩from by simp[Addr.add];try omega,this];simp[List.getD,hb]
 refine⟨_,mkPost (M:=[]) (N:=[ar]) (ps:=[(ar,1)]) (g':=γ.g) (v':=gm γ.v (ar+16) [⟨.sl n,x.data.toList.map λb=>DN T n nS (b.toNat:Int)⟩]) hx.ob b8 (by simp) (by simp) ?_ hx.cO (λ_ _=>rfl) (λi hi=>sE hx (by simp) hi) ?_ (λj x hj=>by simp[aF]at hj)⟩
 ·intro p hp;simp only[List.mem_singleton]at hp;subst hp;exact⟨hx.cO,λh=>(Ea h rfl).elim,.inl rfl⟩
 ·exact⟨hrv,mD (γ:=γ) (i:=0) rfl (by omega) rfl,λx hx=>by simp at hx;omega⟩
def aoO [Rd](hR:cK T)(hx:Cx U ar γ w sl L ob){s t se:aX}{n:Nat}{o:ba}{xs:List (D n)}{v:ai}{S:Nat->Prop}(hs:P.underlying s=aa (.slice se))(hse:P.underlying se=aa (.int .u8))(ht:P.underlying t=aa .string)(nS:T.lv n=[.int .u8])
  (h1:ev L o=aa v) (hv:fJ S w v xs):
  OW P Qx L ⟨d,.convert s t o,ty,pos,af,gd⟩ w (λv w'=>∃γ',dW U ar γ w ob ⟨.c (.one (.v .str (xA (tI T n nS) xs) [] (ar+16))),[],[]⟩ γ' v w'):=by
 obtain⟨p,cap,rfl,xh⟩:=hv
 have hb:∀(q:Option Addr) (h0:xs=[]),(Conv.bytesToString (.slice q xs.length cap)).run P w= .ok (.string (xA (tI T n nS) xs)) w:=by
  intro q h0;subst h0;cases q with
  |none=>simp[Conv.bytesToString,xA,Sem.run_pure]
  |some a=>exact run_bytesToString w a 0 cap [] (by simp[loadCells,loadCellsFrom])
 have hc:(Conv.bytesToString (.slice p xs.length cap)).run P w= .ok (.string (xA (tI T n nS) xs)) w:=by
  rcases xh with h0|⟨a,aJ,rfl,hr,ul⟩
  ·exact hb p h0
  ·have eL:∀{aJ:List (List ai)} {xs:List (D n)},cA (ad.rd S w) aJ xs->aJ.flatten=(xs.map (tI T n nS)).map (ai.int .u8):=by
    intro aJ;induction aJ with
    |nil=>intro xs h;cases xs with
     |nil=>rfl
     |cons _ _=>exact h.elim
    |cons c aJ ih=>intro xs h;cases xs with
     |nil=>exact h.elim
     |cons x xs=>have h1:=(abz hR nS).1 h.1;subst h1;simp only[nE,ih h.2,gC];rfl
   have eL:=eL hr;have hl:=run_loadCells_list (P:=P) w a aJ.flatten ul;rw[eL]at hl;simp only[pZ]at hl;exact run_bytesToString w a xs.length cap _ hl
 refine du (v:= .string (xA (tI T n nS) xs)) (OW.run λa ha=>⟨_,w,?_,rfl,rfl⟩) (er hx rfl)
 simp only[execOp,ha _ _ h1,Sem.run_bind,run_convert_bytes_string w s t se p xs.length cap hs hse ht,hc,Result.andThen,Sem.run_pure]
