/- The symbolic executor: definitions and what operations compute. -/
import Derived.WalkKit
import Derived.Lib.SliceRun
import Derived.Stop.IfaceNil
import Derived.Laws.Cover3
set_option linter.unusedVariables false
set_option linter.unusedSimpArgs false
namespace Go.Sx
section
variable{α:Type _}{l:List α}{β:Type _}
theorem ah(a b:α):(some a=some b)=(a=b):=Option.some.injEq a b
theorem ao(a b:Bool):((a&&b)=true)=(a=true/\b=true):=Bool.and_eq_true a b
theorem hZ(a b:Bool):((a||b)=true)=(a=true\/b=true):=Bool.or_eq_true a b
theorem aO{p:Prop} [Decidable p]:(decide p=true)=p:=decide_eq_true_eq
theorem aD(a:α)(b:β)(c:α)(d:β):((a,b)=(c,d))=(a=c/\b=d):=Prod.mk.injEq a b c d
theorem aZ{a:α}:a∈a::l:=List.mem_cons_self
theorem bI(y:α){a:α}(h:a∈l):a∈y::l:=List.mem_cons_of_mem y h
theorem bN{b:α}{x:Option β}{f:β->α}:Option.map f x=some b↔∃a,x=some a/\f a=b:=Option.map_eq_some_iff
theorem cm{i:Nat}{a:α}:l.getD i a=l[i]?.getD a:=List.getD_eq_getElem?_getD
theorem dw{i:Nat}{a:α}:l[i]?=some a↔∃h:i<l.length,l[i]=a:=List.getElem?_eq_some_iff
theorem eN{i:Nat}(h:i<l.length):l[i]?=some l[i]:=List.getElem?_eq_getElem h
theorem bC{b:α}{a:α}:a∈b::l↔a=b\/a∈l:=List.mem_cons
theorem fE{a b:List α}:(a++b).length=a.length+b.length:=List.length_append
abbrev fc:=@Result.andThen_ok
abbrev ff:=@Sem.run_bind
abbrev gk:=@Sem.run_pure
abbrev jY:=@of_decide_eq_true
abbrev Dc:=@of_decide_eq_false
abbrev sO:=@decide_eq_false_iff_not
abbrev mE:=@List.all_eq_true
abbrev kQ:=@List.map_cons
abbrev zF:=@List.map_congr_left
abbrev pz:=@Int.toNat_natCast
abbrev kK:=@List.getElem?_cons_zero
abbrev Am:=@List.getElem?_cons_succ
abbrev gu:=@List.not_mem_nil
abbrev oK:=@Int.mul_le_mul_of_nonneg_left
abbrev qk:=@Int.mul_le_mul_of_nonneg_right
abbrev p9:=@List.getElem?_append_left
abbrev qv:=@List.getElem?_append_right
abbrev jU:=@Bool.false_eq_true
abbrev sy:=@Array.getElem?_eq_some_iff
abbrev iS:=@List.getElem?_map
abbrev ja:=@decide_eq_true
abbrev qB:=@List.take_of_length_le
abbrev wN:=@List.drop_of_length_le
abbrev jB:=@List.mem_filter
abbrev nJ:=@Bool.not_eq_true'
abbrev sF:=@List.mem_of_getElem?
abbrev qI:=@List.map_append
abbrev uU:=@List.getElem?_eq_none
abbrev oH:=@Nat.lt_or_ge
abbrev nM:=@List.nil_append
abbrev sR:=@List.cons_append
abbrev qd:=@List.length_map
abbrev vF:=@Bool.or_eq_false_iff
abbrev OI:=@Bool.and_eq_false_iff
abbrev x9:=@Nat.mul_le_mul_right
abbrev Eo:=@List.take_append_of_le_length
abbrev Ip:=@List.drop_append_of_le_length
abbrev D5:=@List.eq_nil_of_length_eq_zero
abbrev iE:=@List.mem_singleton
abbrev pj:=@List.map_nil
abbrev jz:=@List.mem_map
abbrev kS:=@Array.ext'
abbrev uV:=@List.length_take
abbrev jS:=@List.mem_append
abbrev Ey:=@Int.tdiv_eq_ediv_of_nonneg
abbrev ym:=@Int.emod_lt_of_pos
abbrev xR:=@List.mem_of_find?_eq_some
abbrev uW:=@Int.ediv_nonneg
abbrev qJ:=@Int.mul_nonneg
abbrev zO:=@List.mem_append_left
abbrev Es:=@List.mem_append_right
abbrev tk:=@List.mem_range
abbrev pf:=@List.length_cons
abbrev Ay:=@List.getElem?_take
abbrev tm:=@Nat.eq_of_beq_eq_true
abbrev D9:=@List.take_append_drop
abbrev Ez:=@Int.ediv_lt_of_lt_mul
abbrev wT:=@List.mem_filterMap
abbrev Gj:=@List.getElem?_replicate
abbrev Eg:=@Nat.lt_of_lt_of_le
abbrev zG:=@Int.emod_nonneg
abbrev vM:=@List.append_nil
abbrev OJ:=@List.append_assoc
abbrev lN:=@Nat.le_trans
abbrev fR:=@Nat.zero_add
abbrev ga:=@Nat.le_refl
abbrev iy:=@Nat.add_zero
abbrev mY:=@Int.mul_comm
abbrev xU:=@List.foldl_cons
abbrev zP:=@Bool.eq_false_iff
abbrev tn:=@Nat.le_add_right
abbrev lY:=@Nat.add_mul
abbrev D8:=@List.toList_toArray
abbrev At:=@Option.isSome_iff_exists
abbrev s5:=@Option.map_some
abbrev zQ:=@Int.mul_le_mul
abbrev la:=@List.any_eq_true
inductive DV where
 |i (n:Int)
 |b (x:Bool)
 |l (xs:List (List Int))
 deriving Inhabited
def DV.int:DV->Int
 |.i n=>n
 |_=>0
def DV.bool:DV->Bool
 |.b x=>x
 |_=>false
def DV.list:DV->List (List Int)
 |.l xs=>xs
 |_=>[]
abbrev aF:=Nat->DV
def aF.set(ae:aF)(k:Nat)(d:DV):aF:=fun j=>if j=k then d else ae j
def aF.au(ae:aF)(k:Nat):List DV->aF
 | []=>ae
 |d::ds=>aF.au (aF.set ae k d) (k+1) ds
inductive IE where
 |v (k:Nat)
 |c (n:Int)
 |add (a b:IE)
 |sub (a b:IE)
 |mul (a b:IE)
 |tdiv (a b:IE)
 |tmod (a b:IE)
 |ediv (a:IE) (n:Nat)
 |emod (a:IE) (n:Nat)
 |shl (a b:IE)
 |shr (a b:IE)
 |wrap (k:IntKind) (a:IE)
 |max (a b:IE)
 |min (a b:IE)
 |bits (op:BinOp) (k:IntKind) (a b:IE)
 |len (k:Nat)
 |get (k:Nat) (i:IE) (j:Nat)
 |ju (i:IE) (n:Nat) (a b:IE)
 deriving DecidableEq,Repr,Inhabited
def cellAt(xs:List (List Int))(i:Int)(j:Nat):Int:=(xs.getD i.toNat []).getD j 0
def IE.af(ae:aF):IE->Int
 |.v k=>(ae k).int
 |.c n=>n
 |.add a b=>a.af ae+b.af ae
 |.sub a b=>a.af ae-b.af ae
 |.mul a b=>a.af ae*b.af ae
 |.tdiv a b=>(a.af ae).tdiv (b.af ae)
 |.tmod a b=>(a.af ae).tmod (b.af ae)
 |.ediv a n=>a.af ae/(n:Int)
 |.emod a n=>a.af ae%(n:Int)
 |.shl a b=>a.af ae*2 ^ (b.af ae).toNat
 |.shr a b=>a.af ae/2 ^ (b.af ae).toNat
 |.wrap k a=>k.wrap (a.af ae)
 |.max a b=>Max.max (a.af ae) (b.af ae)
 |.min a b=>Min.min (a.af ae) (b.af ae)
 |.bits op k a b=>Go.bits op k (a.af ae) (b.af ae)
 |.len k=>((ae k).list.length:Int)
 |.get k i j=>cellAt (ae k).list (i.af ae) j
 |.ju i n a b=>if i.af ae=(n:Int)then a.af ae else b.af ae
inductive BE where
 |v (k:Nat)
 |c (x:Bool)
 |lt (a b:IE)
 |le (a b:IE)
 |eq (a b:IE)
 |not (a:BE)
 |and (a b:BE)
 |or (a b:BE)
 |iff (a b:BE)
 |sM (a:IE)
 deriving DecidableEq,Repr,Inhabited
variable{G:BE}
def BE.af(ae:aF):BE->Bool
 |.v k=>(ae k).bool
 |.c x=>x
 |.lt a b=>decide (a.af ae<b.af ae)
 |.le a b=>decide (a.af ae<=b.af ae)
 |.eq a b=>decide (a.af ae=b.af ae)
 |.not a=>!(a.af ae)
 |.and a b=>a.af ae&&b.af ae
 |.or a b=>a.af ae||b.af ae
 |.iff a b=>a.af ae==b.af ae
 |.sM a=>decide (a.af ae≠0)
def IE.mk(e:IE):IE:=
 match e with
 |.add (.c a) (.c b)=>.c (a+b)
 |.add a (.c 0)=>a
 |.add (.c 0) a=>a
 |.sub (.c a) (.c b)=>.c (a-b)
 |.sub a (.c 0)=>a
 |.mul (.c a) (.c b)=>.c (a*b)
 |.mul (.c 1) a=>a
 |.mul a (.c 1)=>a
 |.tdiv (.c a) (.c b)=>.c (a.tdiv b)
 |.tmod (.c a) (.c b)=>.c (a.tmod b)
 |.ediv (.c a) n=>.c (a/(n:Int))
 |.emod (.c a) n=>.c (a%(n:Int))
 |.shl (.c a) (.c b)=>.c (a*2 ^ b.toNat)
 |.shr (.c a) (.c b)=>.c (a/2 ^ b.toNat)
 |.wrap k (.c a)=>.c (k.wrap a)
 |.max (.c a) (.c b)=>.c (Max.max a b)
 |.min (.c a) (.c b)=>.c (Min.min a b)
 |.bits op k (.c a) (.c b)=>.c (Go.bits op k a b)
 |.ju (.c i) n a b=>if i=(n:Int)then a else b
 |e=>e
def BE.mk(e:BE):BE:=
 match e with
 |.lt (.c a) (.c b)=>.c (decide (a<b))
 |.le (.c a) (.c b)=>.c (decide (a<=b))
 |.eq (.c a) (.c b)=>.c (decide (a=b))
 |.not (.c a)=>.c (!a)
 |.not (.not a)=>a
 |.and (.c true) a=>a
 |.and (.c false) _=>.c false
 |.and a (.c true)=>a
 |.and _ (.c false)=>.c false
 |.or (.c false) a=>a
 |.or (.c true) _=>.c true
 |.or a (.c false)=>a
 |.or _ (.c true)=>.c true
 |.iff (.c true) a=>a
 |.iff a (.c true)=>a
 |.sM (.c a)=>.c (decide (a≠0))
 |e=>e
def BE.jt(G g:BE):Bool:=
 decide (g = .c true)||decide (G=g)||(match G with
   |.and x y=>x.jt g||y.jt g
   |_=>false)
def BE.under(G n:BE):BE:=if G = .c true then n else .or (.not G) n
def Xt(k:IntKind)(e:IE):BE:=
 match e with
 |.c n=>.c (decide (k.min<=n)&&decide (n<=k.max))
 |e=>.and (.le (.c k.min) e) (.le e (.c k.max))
inductive CK where
 |i (k:IntKind)
 |b
 |f
 deriving DecidableEq,Repr,Inhabited
inductive dK where
 |i (k:IntKind) (e:IE)
 |b (e:BE)
 |s (row:Nat)
 |lM
 deriving DecidableEq,Repr,Inhabited
inductive ak where
 |i (k:IntKind) (e:IE)
 |b (e:BE)
 |p (oo off:Nat)
 |ep (row sz:Nat) (i:IE) (j:Nat)
 |pi (oo off sz n:Nat) (x:IE)
 |s (row:Nat)
 |lM
 |UC
 |f (f:FuncId)
 |fn (g:FuncId) (dT:List (Bool×Nat))
 |fl (e:IE)
 |str (bs:List UInt8)
 |UD
 |Ib
 |bf (g:FuncId) (agg:Bool) (ls:List dK)
 |vw (row sz:Nat) (lo n:IE)
 |cs (row:Nat)
 |bs (oo n sz:Nat)
 |kb (row:Nat) (bytes:List UInt8)
 |ab (row i:Nat) (b:UInt8)
 deriving DecidableEq,Repr,Inhabited
def dK.up:dK->ak
 |.i k e=>.i k e
 |.b e=>.b e
 |.s r=>.s r
 |.lM=>.lM
def ak.down:ak->Option dK
 |.i k e=>some (.i k e)
 |.b e=>some (.b e)
 |.s r=>some (.s r)
 |.lM=>some .lM
 |_=>none
inductive V1 where
 |one (l:ak)
 |agg (ls:List ak)
 deriving DecidableEq,Repr,Inhabited
inductive SV where
 |v (x:V1)
 |H5 (xs:List V1)
 deriving DecidableEq,Repr,Inhabited
structure Ph where
 r:Nat->Nat
 v:Nat->Option Addr×Nat×Nat
 z:Nat->Prop
def Ph.qi(ph:Ph)(k n:Nat):Ph:={ph with r:=fun j=>if j=k then n else ph.r j}
def Ph.wL(ph:Ph)(k:Nat)(x:Option Addr×Nat×Nat):Ph:={ph with v:=fun j=>if j=k then x else ph.v j}
def Ph.val(ph:Ph)(k:Nat):Value:=.slice (ph.v k).1 (ph.v k).2.1 (ph.v k).2.2
def dK.af(ae:aF)(ph:Ph):dK->Value
 |.i k e=>.int k (e.af ae)
 |.b e=>.bool (e.af ae)
 |.s row=>ph.val row
 |.lM=>.slice none 0 0
def mT(ph:Ph)(c:Bool×Nat):Value:=if c.1 then .pointer (ph.v c.2).1 else .pointer (some ⟨ph.r c.2,0,none⟩)
def ak.af(ae:aF)(ph:Ph):ak->Value
 |.i k e=>.int k (e.af ae)
 |.b e=>.bool (e.af ae)
 |.p id off=>.pointer (some ⟨ph.r id,off,none⟩)
 | .ep row sz x j=>match(ph.v row).1 with
   |some a=>.pointer (some (a.add ((x.af ae).toNat*sz+j)))
   |none=>.pointer none
 |.pi id off sz _ x=>.pointer (some ⟨ph.r id,off+(x.af ae).toNat*sz,none⟩)
 |.s row=>ph.val row
 |.lM=>.slice none 0 0
 |.UC=>.pointer none
 |.f g=>.func (.func g) #[] #[]
 |.fn g dT=>.func (.func g) #[] (dT.map (mT ph)).toArray
 |.fl e=>.float .f64 (e.af ae).toNat
 |.str bytes=>.string ⟨bytes.toArray⟩
 |.UD=>.nilFunc
 |.Ib=>.nilIface
 |.bf g agg ls=>.func (.func g) #[if agg then .agg (ls.map (dK.af ae ph)).toArray else(ls.map (dK.af ae ph)).headD undef] #[]
 |.vw row sz lo n=>.slice (if(ph.v row).2.2=(lo.af ae).toNat then(ph.v row).1 else(ph.v row).1.map (·.add ((lo.af ae).toNat*sz))) (n.af ae).toNat ((ph.v row).2.2-(lo.af ae).toNat)
 |.cs row=>.slice (ph.v row).1 (ph.v row).2.1 (ph.v row).2.1
 |.bs id n _=>.slice (some ⟨ph.r id,0,none⟩) n n
 |.kb row _=>ph.val row
 | .ab row m _=>match(ph.v row).1 with
   |some a=>.pointer (some (a.add m))
   |none=>.pointer none
def V1.af(ae:aF)(ph:Ph):V1->Value
 |.one l=>l.af ae ph
 |.agg ls=>.agg (ls.map (ak.af ae ph)).toArray
def SV.af(ae:aF)(ph:Ph):SV->Value
 |.v x=>x.af ae ph
 |.H5 xs=>.tuple (xs.map (V1.af ae ph)).toArray
structure bc where
 g:BE
 sv:SV
 deriving DecidableEq,Repr,Inhabited
def bc.af(ae:aF)(ph:Ph)(s:bc):Value:=if s.g.af ae then s.sv.af ae ph else undef
structure iX where
 id:Nat
 ty:TypeId
 cells:List ak
 deriving DecidableEq,Repr,Inhabited
structure Row where
 id:Nat
 e:TypeId
 ks:List CK
 lv:Nat
 own:Bool
 g:BE
 deriving DecidableEq,Repr,Inhabited
inductive NK where
 |c (k:CK)
 |s (e:TypeId) (k:CK)
 deriving DecidableEq,Repr,Inhabited
structure eO where
 id:Nat
 e:TypeId
 aU:List NK
 lv:Nat
 g:BE
 own:Bool
 deriving DecidableEq,Repr,Inhabited
structure St where
 tmps:List (Option bc)
 bl:List iX
 rows:List Row
 bp:List eO:=[]
 next:Nat
 qh:List (Nat×Nat)
 deriving DecidableEq,Repr,Inhabited
def St.has(st:St)(k:Nat):Bool:=decide (k<st.next)||st.qh.any fun d=>decide (d.1<=k)&&decide (k<d.2)
def St.free(st:St)(a n:Nat):Bool:=decide (st.next<=a)&&st.qh.all fun d=>decide (a+n<=d.1)||decide (d.2<=a)
def xY(d:Nat×Nat):List (Nat×Nat)->List (Nat×Nat)
 | []=>[d]
 |x::xs=>if x.1<d.1 then d::x::xs else x::xY d xs
def St.bK(st:St)(a n:Nat):St:={st with qh:=xY (a,a+n) st.qh}
def IE.all(p:Nat->Bool):IE->Bool
 |.v k| .len k=>p k
 |.c _=>true
 |.add a b| .sub a b| .mul a b| .tdiv a b| .tmod a b| .shl a b| .shr a b| .max a b| .min a b| .bits _ _ a b=>a.all p&&b.all p
 |.ediv a _| .emod a _| .wrap _ a=>a.all p
 |.get k i _=>p k&&i.all p
 |.ju i _ a b=>i.all p&&(a.all p&&b.all p)
def BE.all(p:Nat->Bool):BE->Bool
 |.v k=>p k
 |.c _=>true
 |.lt a b| .le a b| .eq a b=>a.all p&&b.all p
 |.not a=>a.all p
 |.and a b| .or a b| .iff a b=>a.all p&&b.all p
 |.sM a=>a.all p
def dK.all(p:Nat->Bool):dK->Bool
 |.i _ e=>e.all p
 |.b e=>e.all p
 |.s row=>p row
 |.lM=>true
def ak.all(p:Nat->Bool):ak->Bool
 |.i _ e=>e.all p
 |.b e=>e.all p
 |.p id _=>p id
 |.ep row _ x _=>p row&&x.all p
 |.pi id _ _ _ x=>p id&&x.all p
 |.s row=>p row
 |.lM| .UC| .f _=>true
 |.fn _ dT=>dT.all fun c=>p c.2
 |.fl e=>e.all p
 |.str _| .UD| .Ib=>true
 |.bf _ _ ls=>ls.all (dK.all p)
 |.vw row _ lo n=>p row&&(lo.all p&&n.all p)
 |.cs row=>p row
 |.bs id _ _=>p id
 |.kb row _=>p row
 |.ab row _ _=>p row
def bG(p:Nat->Bool):List ak->Bool
 | []=>true
 |l::ls=>l.all p&&bG p ls
def V1.all(p:Nat->Bool):V1->Bool
 |.one l=>l.all p
 |.agg ls=>bG p ls
def ei(p:Nat->Bool):List V1->Bool
 | []=>true
 |x::xs=>x.all p&&ei p xs
def SV.all(p:Nat->Bool):SV->Bool
 |.v x=>x.all p
 |.H5 xs=>ei p xs
def bc.all(p:Nat->Bool)(s:bc):Bool:=s.g.all p&&s.sv.all p
def iX.all(p:Nat->Bool)(b:iX):Bool:=p b.id&&bG p b.cells
def Row.all(p:Nat->Bool)(r:Row):Bool:=p r.id&&(p r.lv&&r.g.all p)
def eO.all(p:Nat->Bool)(r:eO):Bool:=p r.id&&(p r.lv&&r.g.all p)
inductive CT where
 |c (k:CK)
 |s (e:TypeId) (ks:List CK)
 |n (e:TypeId) (aU:List NK)
 deriving DecidableEq,Repr,Inhabited
inductive VT where
 |one (c:CT)
 |agg (cs:List CT)
 |ptr (e:TypeId) (ks:List CK)
 |fn (g:FuncId) (cs:List (TypeId×IntKind))
 deriving DecidableEq,Repr,Inhabited
structure bX where
 args:List VT
 res:List VT
 cons:Nat:=0
 deriving DecidableEq,Repr,Inhabited
inductive DE where
 |i (e:IE)
 |b (e:BE)
 |l (k:Nat)
 |nil
 |rows (es:List IE)
 |vP (xs:List (Sum IE BE))
 deriving DecidableEq,Repr,Inhabited
def cg(ae:aF):Sum IE BE->Int
 |.inl e=>e.af ae
 |.inr b=>if b.af ae then 1 else 0
def DE.af(ae:aF):DE->DV
 |.i e=>.i (e.af ae)
 |.b e=>.b (e.af ae)
 |.l k=>.l (ae k).list
 |.nil=>.l []
 |.rows es=>.l (es.map fun e=>[e.af ae])
 |.vP xs=>.l [xs.map (cg ae)]
def VT.bP:VT->List CT
 |.one c=>[c]
 |.agg cs=>cs
 |.ptr e ks=>[.s e ks]
 |.fn _ cs=>cs.map fun c=>.s c.1 [.i c.2]
def bP(vs:List VT):List CT:=vs.flatMap VT.bP
inductive cN where
 |c (x:Sum IE BE)
 |s (lv:Nat)
 |nil
 deriving DecidableEq,Repr,Inhabited
def cN.head(ae:aF):cN->Int
 |.c x=>cg ae x
 |.s lv=>((ae lv).list.length:Int)
 |.nil=>0
def cN.tail(ae:aF):cN->List Int
 |.s lv=>(ae lv).list.map fun r=>r.getD 0 0
 |_=>[]
inductive ew where
 |lit (rows:List (List (Sum IE BE)))
 |app (a b:Nat)
 |set (a:Nat) (i:IE) (j:Nat) (x:Sum IE BE)
 |zK (a:Nat) (i:IE) (xs:List (Sum IE BE))
 |Em (a:Nat) (i:IE) (j:Nat) (xs:List (Sum IE BE))
 |take (a:Nat) (n:IE)
 |rep (n:IE) (row:List Int)
 |cp (a:Nat)
 |sub (a:Nat) (i:IE) (aU:List NK) (j:Nat)
 |UR (a b:Nat)
 |Eu (rows:List (List cN))
 deriving DecidableEq,Repr,Inhabited
def qj:List NK->List Int->List Int->Nat->List Int
 | [],_,_,_=>[]
 |.c _::_,_,_,0=>[]
 |.c _::aU,hs,rest,j+1=>qj aU hs.tail rest j
 |.s _ _::_,hs,rest,0=>rest.take (hs.headD 0).toNat
 |.s _ _::aU,hs,rest,j+1=>qj aU hs.tail (rest.drop (hs.headD 0).toNat) j
def eU(aU:List NK)(r:List Int)(j:Nat):List Int:=qj aU (r.take aU.length) (r.drop aU.length) j
def mW(r:List Int)(j:Nat)(x:Int):List Int:=if j<r.length then r.set j x else r++(List.replicate (j-r.length) 0++[x])
def j4(r:List Int)(j:Nat):List Int->List Int
 | []=>r
 |x::xs=>j4 (mW r j x) (j+1) xs
def setAt(xs:List (List Int))(i:Int)(j:Nat)(x:Int):List (List Int):=xs.modify i.toNat (fun r=>mW r j x)
def ew.af(ae:aF):ew->List (List Int)
 |.lit rows=>rows.map fun r=>r.map (cg ae)
 |.app a b=>(ae a).list++(ae b).list
 |.set a i j x=>setAt (ae a).list (i.af ae) j (cg ae x)
 |.zK a i xs=>(ae a).list.modify (i.af ae).toNat (fun _=>xs.map (cg ae))
 |.Em a i j xs=>(ae a).list.modify (i.af ae).toNat (fun r=>j4 r j (xs.map (cg ae)))
 |.take a n=>(ae a).list.take (n.af ae).toNat
 |.rep n row=>List.replicate (n.af ae).toNat row
 |.cp a=>(ae a).list
 |.sub a i aU j=>(eU aU ((ae a).list.getD (i.af ae).toNat []) j).map fun x=>[x]
 |.UR a b=>(ae b).list.take (ae a).list.length++(ae a).list.drop (ae b).list.length
 |.Eu rows=>rows.map fun r=>r.map (cN.head ae)++r.flatMap (cN.tail ae)
inductive Ev where
 |aH (p:BE)
 |call (f:FuncId) (g:BE) (args:List DE) (res:List VT) (base:Nat)
 |b8 (id:Nat) (op:ew)
 |dO (p:BE) (e:IE)
 deriving DecidableEq,Repr,Inhabited
inductive aA where
 |ret (bM:List DE)
 |stuck (why:String)
 |ev (e:Ev) (t:aA)
 |ite (c:BE) (t e:aA)
 |loop (id:Nat) (entry:List DE) (ks:List CT) (base:Nat) (body:aA)
 |again (id:Nat) (bM:List DE)
 |fail (e:IE)
 |gA (x:Nat) (tp t:aA)
 |pop (t:aA)
 deriving DecidableEq,Repr,Inhabited
structure Hint where
 cells:List (Nat×Nat)
 rows:List (Nat×TypeId×List CK)
 fT:List Nat:=[]
 bp:List (Nat×TypeId×List NK):=[]
 acG:List (Nat×Nat×TypeId×List CK):=[]
 deriving Inhabited
structure lg where
 sig:FuncId->Option bX
 hO:Bool
 loops:List (Nat×Hint)
 splits:List (Nat×Nat×Nat)
 inl:List FuncId:=[]
 aH:Option FuncId:=none
 yn:Option FuncId:=none
 dm:TypeId:=0
 ql:TypeId:=0
 Xy:List (Nat×List Nat×List Nat):=[]
 GA:List Nat:=[]
 y8:List (Nat×List Int):=[]
 eK:Option St:=none
 zR:Option FuncId:=none
 bsl:List TypeId:=[]
 AM:Option (Nat×Nat):=none
 no:List (Nat×Int):=[]
 deriving Inhabited
def Au(P:Program)(g:TypeId->Option (List CK)):Nat->List Field->Option (List CK)
 |_,[]=>some []
 | off,f::fs=>if f.offset=off then(match g f.type with
   | some m=>if P.cellsOf f.type=m.length/\0<m.length then(match Au P g (off+m.length) fs with
     |some r=>some (m++r)
     |none=>none)else none
   |none=>none)else none
def flat(P:Program):Nat->TypeId->Option (List CK)
 |0,_=>none
 | n+1,t=>
   match P.underlying t with
   |some (.int k)=>some [.i k]
   |some .bool=>some [.b]
   |some (.struct fs)=>Au P (flat P n) 0 fs.toList
   | some (.array len e)=>match flat P n e with
     |some m=>if P.cellsOf e=m.length/\0<m.length then some (List.replicate len m).flatten else none
     |none=>none
   |_=>none
def ie(P:Program)(t:TypeId):Bool:=
 match P.underlying t with
 |some (.struct _)|some (.array _ _)=>true
 |_=>false
def ofConst:Value->Option V1
 |.int k n=>some (.one (.i k (.c n)))
 |.bool x=>some (.one (.b (.c x)))
 |.slice none 0 0=>some (.one .lM)
 |.string s=>some (.one (.str s.data.toList))
 |.nilIface=>some (.one .Ib)
 |_=>none
def LG(st:St)(G:BE):Operand->Option SV
 | .tmp t=>match st.tmps[t]? with
   |some (some s)=>if G.jt s.g then some s.sv else none
   |_=>none
 |.const v=>(ofConst v).map SV.v
 |.func f=>some (.v (.one (.f f)))
 |.global _=>none
def lS(st:St)(G:BE)(x:Operand):Option V1:=
 match LG st G x with
 |some (.v x)=>some x
 |_=>none
def bJ(st:St)(G:BE)(x:Operand):Option ak:=
 match LG st G x with
 |some (.v (.one l))=>some l
 |_=>none
def Oe(wr:Bool)(k:IntKind)(e:IE):List BE×ak:=
 match e with
 |.c n=>([],.i k (.c (k.wrap n)))
 |e=>if wr then([],.i k (.wrap k e))else([Xt k e],.i k e)
def arith(wr:Bool)(k:IntKind)(e:IE):List BE×ak:=Oe wr k e.mk
def Aq:Nat->Int->Option Nat
 |0,_=>none
 |m+1,n=>if n+1=((2 ^ m:Nat):Int)then some m else Aq m n
def Of(wr:Bool)(op:BinOp)(x y:ak):Option (List BE×ak):=
 match op,x,y with
 |.shl,.i k a,.i _ (.c n)=>if 0<=n/\n<=62/\n<=k.bits then some (arith wr k (.mul a (.c ((2 ^ n.toNat:Nat):Int))))else none
 |.shl,.i k a,.i _ b=>let r:=arith wr k (.shl a b);some ((BE.le (.c 0) b).mk::(BE.le b (.c (k.bits:Int))).mk::r.1,r.2)
 |.shr,.i k a,.i _ (.c n)=>if 0<=n/\n<=64/\n<=k.bits then some ([],.i k (IE.ediv a (2 ^ n.toNat)).mk)else none
 |.shr,.i k a,.i _ b=>some ([(BE.le (.c 0) b).mk,(BE.le b (.c (k.bits:Int))).mk],.i k (IE.shr a b).mk)
 |.add,.i k a,.i k' b=>if k=k' then some (arith wr k (.add a b))else none
 |.sub,.i k a,.i k' b=>if k=k' then some (arith wr k (.sub a b))else none
 |.mul,.i k a,.i k' b=>if k=k' then some (arith wr k (.mul a b))else none
 |.quo,.i k a,.i k' b=>if k=k' then let r:=arith wr k (.tdiv a b);some ((BE.sM b).mk::r.1,r.2)else none
 |.rem,.i k a,.i k' b=>if k=k' then some ([(BE.sM b).mk],.i k (IE.tmod a b).mk)else none
 |.and,.i k a,.i k' (.c n)=>if k=k' then(match k,Aq 63 n with
     |.i64,some m=>some ([],.i k (IE.emod a (2 ^ m)).mk)
     |.u64,some m=>some ([],.i k (IE.emod a (2 ^ m)).mk)
     |_,_=>some ([],.i k (IE.bits .and k a (.c n)).mk))else none
 |.and,.i k a,.i k' b=>if k=k' then some ([],.i k (IE.bits .and k a b).mk)else none
 |.or,.i k a,.i k' b=>if k=k' then some ([],.i k (IE.bits .or k a b).mk)else none
 |.xor,.i k a,.i k' b=>if k=k' then some ([],.i k (IE.bits .xor k a b).mk)else none
 |.andNot,.i k a,.i k' b=>if k=k' then some ([],.i k (IE.bits .andNot k a b).mk)else none
 |.lss,.i k a,.i k' b=>if k=k' then some ([],.b (BE.lt a b).mk)else none
 |.leq,.i k a,.i k' b=>if k=k' then some ([],.b (BE.le a b).mk)else none
 |.gtr,.i k a,.i k' b=>if k=k' then some ([],.b (BE.lt b a).mk)else none
 |.geq,.i k a,.i k' b=>if k=k' then some ([],.b (BE.le b a).mk)else none
 |.eql,.i k a,.i k' b=>if k=k' then some ([],.b (BE.eq a b).mk)else none
 |.neq,.i k a,.i k' b=>if k=k' then some ([],.b (BE.not (BE.eq a b).mk).mk)else none
 |_,_,_=>none
def Ih:ak->ak->Option BE
 |.i k a,.i k' b=>if k=k' then some (BE.eq a b).mk else none
 |.b a,.b b=>some (BE.iff a b).mk
 |_,_=>none
def rk:List ak->List ak->Option BE
 | [],[]=>some (.c true)
 | x::xs,y::ys=>match Ih x y,rk xs ys with
   |some p,some q=>some (BE.and p q).mk
   |_,_=>none
 |_,_=>none
def fits:CK->ak->Bool
 |.i k,.i k' _=>decide (k=k')
 |.b,.b _=>true
 |.f,.fl _=>true
 |_,_=>false
def rj:List CK->List ak->Bool
 | [],[]=>true
 |k::ks,l::ls=>fits k l&&rj ks ls
 |_,_=>false
def YQ(P:Program)(t:TypeId)(x y:V1):Option BE:=
 match x,y with
 | .one (.b a),.one (.b b)=>match P.underlying t with
   |some .bool=>some (BE.iff a b).mk
   |_=>none
 | .agg xs,.agg ys=>match flat P 16 t with
   |some ks=>if rj ks xs&&rj ks ys&&ie P t && !P.eqGuardType P.depth t && !xQ P 16 t then rk xs ys else none
   |none=>none
 |_,_=>none
where
 xQ (P:Program):Nat->TypeId->Bool
   |0,_=>true
   | n+1,t=>match P.underlying t with
     |some (.struct fs)=>P.stoodInHeld t||fs.toList.any fun f=>f.name == "_" ||xQ P n f.type
     |some (.array _ e)=>xQ P n e
     |_=>false
def gT(st:St)(id:Nat):Option iX:=st.bl.find? (fun b=>b.id==id)
def bO(st:St)(id:Nat):Option Row:=st.rows.find? (fun r=>r.id==id)
def fx(st:St)(id:Nat):Option eO:=st.bp.find? (fun r=>r.id==id)
def rl(lv:Nat)(i:IE)(j:Nat):CK->ak
 |.i k=>.i k (.get lv i j)
 |.b=>.b (.sM (.get lv i j))
 |.f=>.fl (.get lv i j)
def oq(lv:Nat)(i:IE):Nat->List CK->List ak
 |_,[]=>[]
 |j,k::ks=>rl lv i j k::oq lv i (j+1) ks
def Ii(ls:List ak)(off n:Nat):Option (List ak):=if off+n<=ls.length then some ((ls.drop off).take n)else none
def sT(P:Program)(t:TypeId)(cs:List ak)(off:Nat):Option V1:=
 if(P.underlying t).isSome&&decide (0<P.cellsOf t)then
   (if ie P t then(Ii cs off (P.cellsOf t)).map V1.agg else(cs[off]?).map V1.one)
 else none
def uq(x:IE):Nat->List ak->Option ak
 |_,[]=>none
 |_,[l]=>some l
 | j,l::ls=>match l,uq x (j+1) ls with
   |.i k a,some (.i k' b)=>if k=k' then some (.i k (.ju x j a b))else none
   |.b p,some (.b q)=>some (.b (.or (.and (.eq x (.c (j:Int))) p) (.and (.not (.eq x (.c (j:Int)))) q)))
   |_,_=>none
def sU(cells:List ak)(off sz:Nat):Nat->Option (List ak)
 |0=>some []
 | n+1=>match cells[off]?,sU cells (off+sz) sz n with
   |some l,some ls=>some (l::ls)
   |_,_=>none
def Gd(cells:List ak)(off sz n:Nat)(x:IE):Option ak:=
 match sU cells off sz n with
 |some ls=>uq x 0 ls
 |none=>none
def sV(cells:List ak)(sz n:Nat)(x:IE):Nat->Nat->Option (List ak)
 |_,0=>some []
 | off,m+1=>match Gd cells off sz n x,sV cells sz n x (off+1) m with
   |some l,some ls=>some (l::ls)
   |_,_=>none
def Oi(P:Program)(t:TypeId)(r:Row)(i:IE)(j:Nat):Option (List BE×V1):=
 match r.ks,i,j with
 | [k],.c (.ofNat n),0=>if(P.underlying t).isSome&&decide (0<P.cellsOf t)&&ie P t then
     some ([(BE.le (.c ((n+P.cellsOf t:Nat):Int)) (.len r.lv)).mk],.agg ((List.range (P.cellsOf t)).map fun(q:Nat)=>rl r.lv (.c ((n+q:Nat):Int)) 0 k))else none
 |_,_,_=>none
def CY(P:Program)(st:St)(G:BE)(t:TypeId):ak->Option (List BE×V1)
 | .p id off=>match gT st id with
   |some b=>(sT P t b.cells off).map fun v=>([],v)
   |none=>none
 | .pi id off sz n x=>match gT st id with
   |some b=>if !((P.underlying t).isSome&&decide (0<P.cellsOf t))then none else if ie P t then(sV b.cells sz n x off (P.cellsOf t)).map fun ls=>([(BE.le (.c 0) x).mk,(BE.lt x (.c (n:Int))).mk],V1.agg ls)
       else(Gd b.cells off sz n x).map fun l=>([(BE.le (.c 0) x).mk,(BE.lt x (.c (n:Int))).mk],V1.one l)
   |none=>none
 | .ep row sz i j=>match bO st row with
   |some r=>if G.jt r.g&&decide (r.ks.length=sz)then
       (match sT P t (oq r.lv i 0 r.ks) j with
       |some v=>some ([(BE.le (.c 0) i).mk,(BE.lt i (.len r.lv)).mk],v)
       |none=>Oi P t r i j)else none
   |none=>none
 | .ab row i b=>match bO st row with
   |some r=>if G.jt r.g&&decide (r.ks=[.i .u8])&&(P.underlying t).isSome&&decide (P.cellsOf t=1) && !ie P t then
       some ([(BE.lt (.c (i:Int)) (.len r.lv)).mk,(BE.eq (.get r.lv (.c (i:Int)) 0) (.c (b.toNat:Int))).mk],.one (.i .u8 (.c (b.toNat:Int))))else none
   |none=>none
 |_=>none
def Ee(row sz:Nat)(i:IE)(j o:Nat):ak:=
 match sz,i,j with
 |1,.c (.ofNat n),0=>.ep row 1 (.c ((n+o:Nat):Int)) 0
 |_,_,_=>.ep row sz i (j+o)
def sZ(P:Program)(s:TypeId)(f:Nat):Option (Nat×TypeId):=
 match P.underlying s with
 | some (.struct fs)=>match fs[f]? with
   |some fd=>if P.cellsOf fd.type=0 then none else some (fd.offset,fd.type)
   |none=>none
 |_=>none
def On(P:Program)(st:St)(G:BE)(t:TypeId)(x:ak)(k:IntKind)(i:IE):Option (List BE×ak):=
 match P.underlying t,x with
 | some (.array len e),.p id off=>match i with
   |.c n=>if 0<=n/\n<(len:Int)/\1<len/\(P.info? e).isSome=true then some ([],.p id (off+n.toNat*P.cellsOf e))else none
   |x=>if 1<len/\(P.info? e).isSome=true then some ([(BE.le (.c 0) x).mk,(BE.lt x (.c (len:Int))).mk],.pi id off (P.cellsOf e) len x)else none
 | some (.array len e),.ep row sz r j=>match bO st row with
   |some rr=>if r = .c 0/\j=0/\rr.ks.length=sz/\P.cellsOf e=sz/\(P.info? e).isSome=true/\1<len/\G.jt rr.g=true then
       some ([(BE.le (.c 0) i).mk,(BE.lt i (.c (len:Int))).mk,(BE.lt i (.len rr.lv)).mk],.ep row sz i 0)else(match i with
   | .c n=>match bO st row with
     |some rr=>if 0<=n/\n<(len:Int)/\1<len/\(P.info? e).isSome=true/\G.jt rr.g=true then some ([(BE.le (.c 0) r).mk,(BE.lt r (.len rr.lv)).mk],.ep row sz r (j+n.toNat*P.cellsOf e))else none
     |none=>none
   |_=>none)
   |none=>none
 | some (.slice e),.s row=>match bO st row with
   |some r=>if G.jt r.g&&decide (P.cellsOf e=r.ks.length)then some ([(BE.le (.c 0) i).mk,(BE.lt i (.len r.lv)).mk],.ep row r.ks.length i 0)else none
   | none=>match fx st row with
     |some r=>if G.jt r.g&&decide (P.cellsOf e=r.aU.length)then some ([(BE.le (.c 0) i).mk,(BE.lt i (.len r.lv)).mk],.ep row r.aU.length i 0)else none
     |none=>none
 | some (.slice e),.vw row sz lo n=>match bO st row with
   |some r=>if G.jt r.g&&decide (P.cellsOf e=sz)&&decide (r.ks.length=sz)then some ([(BE.le (.c 0) i).mk,(BE.lt i n).mk,(BE.le (.c 0) lo).mk,(BE.le (.add lo n) (.len r.lv)).mk],.ep row sz (IE.add lo i).mk 0)else none
   |none=>none
 | some (.slice e),.kb row bs=>match bO st row with
   | some r=>if G.jt r.g&&decide (P.cellsOf e=1)&&decide (r.ks.length=1)then(match i with
     |.c m=>if 0<=m then(bs[m.toNat]?).map fun b=>([(BE.lt (.c m) (.len r.lv)).mk],.ab row m.toNat b)else none
     |_=>none)else none
   |none=>none
 | some (.slice e),.bs id n sz=>if decide (P.cellsOf e=sz)&&(P.info? e).isSome then(match i with
   |.c m=>if 0<=m/\m<(n:Int)then some ([],.p id (m.toNat*sz))else none
   |x=>some ([(BE.le (.c 0) x).mk,(BE.lt x (.c (n:Int))).mk],.pi id 0 sz n x))else none
 |_,_=>none
def je(cells:List ak)(off:Nat):List ak->List ak
 | []=>cells
 |l::ls=>je (cells.set off l) (off+1) ls
def V1.leaves:V1->List ak
 |.one l=>[l]
 |.agg ls=>ls
def C0(place:Nat->Option (Nat×Nat))(cells:List ak):List (Nat×V1)->Option (List ak)
 | []=>some cells
 | (i,v)::rest=>match place i with
   |none=>none
   | some (off,size)=>if v.leaves.length≠size\/off+v.leaves.length>cells.length then none
     else C0 place (je cells off v.leaves) rest
def sX:Value->Option ak
 |.int k n=>some (.i k (.c n))
 |.bool x=>some (.b (.c x))
 |.slice none 0 0=>some .lM
 |.pointer none=>some .UC
 |.nilFunc=>some .UD
 |.nilIface=>some .Ib
 |.string s=>some (.str s.data.toList)
 |_=>none
def qC(P:Program)(t:TypeId):Option V1:=
 match(P.info? t).bind (·.zero)with
 |some (.agg cs)=>(cs.toList.mapM sX).map V1.agg
 |some v=>(sX v).map V1.one
 |none=>none
def vH(P:Program)(t:TypeId):Option (Nat->Option (Nat×Nat)):=
 match P.underlying t with
 |some (.struct fs)=>if fs.toList.all (fun f=>(P.info? f.type).isSome)then some fun i=>(fs[i]?).map fun f=>(f.offset,P.cellsOf f.type)else none
 |some (.array _ e)=>if(P.info? e).isSome then some fun i=>some (i*P.cellsOf e,P.cellsOf e)else none
 |_=>none
def iN(st:St)(G:BE):List (Nat×Operand)->Option (List (Nat×V1))
 | []=>some []
 | (i,x)::rest=>match lS st G x,iN st G rest with
   |some v,some l=>some ((i,v)::l)
   |_,_=>none
def mb(st:St)(G:BE):List Operand->Option (List V1)
 | []=>some []
 | x::rest=>match lS st G x,mb st G rest with
   |some v,some l=>some (v::l)
   |_,_=>none
def sY(st:St)(G:BE):List Operand->Option (List (Bool×Nat))
 | []=>some []
 | x::rest=>match bJ st G x,sY st G rest with
   |some (.p id 0),some l=>some ((false,id)::l)
   |some (.ep row 1 (.c 0) 0),some l=>some ((true,row)::l)
   |_,_=>none
def Gg:List ak->Option (List dK)
 | []=>some []
 | l::ls=>match l.down,Gg ls with
   |some x,some xs=>some (x::xs)
   |_,_=>none
def isConst:Operand->Bool
 |.const _=>true
 |_=>false
def UI(P:Program)(st:St)(G:BE)(t:TypeId)(X Y:Operand)(x y:V1):Option (List BE×BE):=
 match x,y with
 | .one .lM,.one .lM=>match P.underlying t with
   |some (.slice _)=>some ([],.c true)
   |_=>none
 | .one (.s row),.one .lM=>match P.underlying t,bO st row with
   |some (.slice _),some r=>if G.jt r.g then some ([(BE.lt (.c 0) (.len r.lv)).mk],.c false)else none
   |_,_=>none
 | .one (.str a),.one (.str b)=>match P.underlying t with
   |some .string=>some ([],.c (decide (a=b)))
   |_=>none
 | .one .Ib,.one .Ib=>match P.underlying t with
   |some (.interface _)=>if isConst X||isConst Y then some ([],.c true)else none
   |_=>none
 |_,_=>none
def YV(P:Program)(wr:Bool)(st:St)(G:BE)(op:Op):Option (List BE×SV):=
 match op with
 |.move x| .assign x=>(LG st G x).map fun v=>([],v)
 | .pick c a b=>match bJ st G c with
   | some (.b p)=>match bJ st (BE.and G p).mk a,bJ st (BE.and G (BE.not p).mk).mk b with
     |some (.b x),some (.b y)=>some ([],.v (.one (.b (match y,x with
         |.c false,x=>(BE.and p x).mk
         |y,.c true=>(BE.or p y).mk
         |y,x=>(BE.or (BE.and p x).mk (BE.and (BE.not p).mk y).mk).mk))))
     |_,_=>none
   |_=>none
 | .binOp .eql t x y _=>match lS st G x,lS st G y with
   |some (.one (.i k a)),some (.one (.i k' b))=>(Of wr .eql (.i k a) (.i k' b)).map fun r=>(r.1,.v (.one r.2))
   | some u,some v=>match UI P st G t x y u v with
     |some r=>some (r.1,.v (.one (.b r.2)))
     |none=>(YQ P t u v).map fun p=>([],.v (.one (.b p)))
   |_,_=>none
 | .binOp .neq t x y _=>match lS st G x,lS st G y with
   |some (.one (.i k a)),some (.one (.i k' b))=>(Of wr .neq (.i k a) (.i k' b)).map fun r=>(r.1,.v (.one r.2))
   | some u,some v=>match UI P st G t x y u v with
     |some r=>some (r.1,.v (.one (.b (BE.not r.2).mk)))
     |none=>(YQ P t u v).map fun p=>([],.v (.one (.b (BE.not p).mk)))
   |_,_=>none
 | .binOp op _ x y _=>match bJ st G x,bJ st G y with
   |some a,some b=>(Of wr op a b).map fun r=>(r.1,.v (.one r.2))
   |_,_=>none
 | .unOp .not _ x=>match bJ st G x with
   |some (.b p)=>some ([],.v (.one (.b (BE.not p).mk)))
   |_=>none
 | .unOp .neg _ x=>match bJ st G x with
   |some (.i k a)=>let r:=arith wr k (.sub (.c 0) a);some (r.1,.v (.one r.2))
   |_=>none
 | .convert src dst x=>match bJ st G x,P.underlying src,P.underlying dst with
   | some (.i k a),some _,some (.int k')=>
     if k=k'||(decide (k' = .i64)&&decide (k≠.u64))then(let r:=arith wr k' a;some (r.1,.v (.one r.2)))
     else some ([],.v (.one (.i k' (IE.wrap k' a).mk)))
   |_,_,_=>none
 | .load t x=>match bJ st G x with
   |some l=>(CY P st G t l).map fun r=>(r.1,.v r.2)
   |none=>none
 | .fieldAddr s x f=>match bJ st G x,sZ P s f with
   |some (.p id off),some (o,_)=>some ([],.v (.one (.p id (off+o))))
   |some (.pi id off sz n y),some (o,_)=>some ([],.v (.one (.pi id (off+o) sz n y)))
   | some (.ep row sz i j),some (o,_)=>match bO st row with
     |some r=>if G.jt r.g then some ([(BE.le (.c 0) i).mk,(BE.lt i (.len r.lv)).mk],.v (.one (Ee row sz i j o)))else none
     | none=>match fx st row with
       |some r=>if G.jt r.g then some ([(BE.le (.c 0) i).mk,(BE.lt i (.len r.lv)).mk],.v (.one (.ep row sz i (j+o))))else none
       |none=>none
   |_,_=>none
 | .field s x f=>match lS st G x,sZ P s f with
   |some (.agg cs),some (o,t)=>(sT P t cs o).map fun v=>([],.v v)
   |_,_=>none
 | .indexAddr t x i=>match bJ st G x,bJ st G i with
   |some l,some (.i k e)=>(On P st G t l k e).map fun r=>(r.1,.v (.one r.2))
   |_,_=>none
 | .index t x i=>match lS st G x,bJ st G i,P.underlying t with
   | some (.agg cs),some (.i _ (.c n)),some (.array len e)=>
     if 0<=n/\n<(len:Int)then(sT P e cs (n.toNat*P.cellsOf e)).map fun v=>([],.v v)else none
   | some (.agg cs),some (.i _ x),some (.array len e)=>
     if(P.underlying e).isSome && !ie P e&&decide (P.cellsOf e=1)&&decide (cs.length=len)then(Gd cs 0 1 len x).map fun l=>([(BE.le (.c 0) x).mk,(BE.lt x (.c (len:Int))).mk],.v (.one l))else none
   | some (.one (.str bs)),some (.i _ (.c n)),some .string=>
     if 0<=n then(bs[n.toNat]?).map fun b=>([],.v (.one (.i .u8 (.c (b.toNat:Int)))))else none
   |_,_,_=>none
 | .nilCheck x=>match bJ st G x with
   |some (.p id off)=>some ([],.v (.one (.p id off)))
   | some (.ep row sz i j)=>match bO st row with
     |some r=>if G.jt r.g then some ([(BE.lt (.c 0) (.len r.lv)).mk],.v (.one (.ep row sz i j)))else none
     |none=>none
   |_=>none
 | .makeFunc (.func g) first captured=>match first.toList with
   | []=>(sY st G captured.toList).map fun dT=>([],.v (.one (.fn g dT)))
   | [x]=>if captured.toList=[]then(match lS st G x with
     |some (.one l)=>l.down.map fun l=>([],.v (.one (.bf g false [l])))
     |some (.agg ls)=>(Gg ls).map fun ls=>([],.v (.one (.bf g true ls)))
     |none=>none)else none
   |_=>none
 | .slice t x low high cap=>match P.underlying t,bJ st G x with
   | some (.slice e),some (.s row)=>match bO st row with
     | some r=>if G.jt r.g&&decide (P.cellsOf e=r.ks.length)&&decide (r.e=e)&&(P.info? e).isSome then(match low,high,cap with
       | some l,none,none=>match bJ st G l with
         |some (.i _ lo)=>some ([(BE.le (.c 0) lo).mk,(BE.le lo (.len r.lv)).mk],.v (.one (.vw row r.ks.length lo (IE.sub (.len r.lv) lo).mk)))
         |_=>none
       | some l,some h,none=>match bJ st G l,bJ st G h with
         |some (.i _ lo),some (.i _ hi)=>some ([(BE.le (.c 0) lo).mk,(BE.le lo hi).mk,(BE.le hi (.len r.lv)).mk],.v (.one (.vw row r.ks.length lo (IE.sub hi lo).mk)))
         |_,_=>none
       | none,some h,some m=>match bJ st G h,bJ st G m with
         |some (.i _ hi),some (.i _ mx)=>some ([(BE.eq hi (.len r.lv)).mk,(BE.eq mx (.len r.lv)).mk],.v (.one (.cs row)))
         |_,_=>none
       |_,_,_=>none)else none
     |none=>none
   | some .string,some (.str bs)=>match low,high,cap with
     | some l,none,none=>match bJ st G l with
       |some (.i _ (.c lo))=>if 0<=lo/\lo<=(bs.length:Int)then some ([],.v (.one (.str (bs.drop lo.toNat))))else none
       |_=>none
     | none,some h,none=>match bJ st G h with
       |some (.i _ (.c hi))=>if 0<=hi/\hi<=(bs.length:Int)then some ([],.v (.one (.str (bs.take hi.toNat))))else none
       |_=>none
     |_,_,_=>none
   |_,_=>none
 |.sliceToArrayPointer t x=>match P.underlying t with
     | some (.array len e)=>if 0<len/\P.cellsOf e=1 then(match bJ st G x with
       | some (.s row)=>match bO st row with
         |some r=>if G.jt r.g&&decide (r.ks.length=1)then some ([(BE.le (.c (len:Int)) (.len r.lv)).mk],.v (.one (.ep row 1 (.c 0) 0)))else none
         |none=>none
       | some (.vw row 1 lo n)=>match bO st row with
         |some r=>if G.jt r.g&&decide (r.ks.length=1)then some ([(BE.le (.c (len:Int)) n).mk,(BE.le (.c 0) lo).mk,(BE.le (.add lo n) (.len r.lv)).mk],.v (.one (.ep row 1 lo 0)))else none
         |none=>none
       |_=>none)else none
     |_=>none
 | .extract x n=>match LG st G x with
   |some (.H5 xs)=>(xs[n]?).map fun v=>([],.v v)
   |_=>none
 | .build t parts=>match qC P t,vH P t,iN st G parts.toList with
   |some (.agg z),some place,some ps=>(C0 place z ps).map fun cs=>([],.v (.agg cs))
   |_,_,_=>none
 | .call {callee:=.builtin .len,args,argTypes}=>match args.toList,argTypes[0]?.bind P.underlying with
   | [x],some (.slice _)=>match bJ st G x with
     | some (.s row)=>match bO st row with
       |some r=>if G.jt r.g then some ([],.v (.one (.i .i64 (.len r.lv))))else none
       | none=>match fx st row with
         |some r=>if G.jt r.g then some ([],.v (.one (.i .i64 (.len r.lv))))else none
         |none=>none
     |some .lM=>some ([],.v (.one (.i .i64 (.c 0))))
     | some (.vw row _ lo n)=>match bO st row with
       |some r=>if G.jt r.g then some ([(BE.le (.c 0) n).mk],.v (.one (.i .i64 n)))else none
       |none=>none
     |some (.bs _ n _)=>some ([],.v (.one (.i .i64 (.c (n:Int)))))
     | some (.kb row bs)=>match bO st row with
       |some r=>if G.jt r.g then some ([(BE.eq (.len r.lv) (.c (bs.length:Int))).mk],.v (.one (.i .i64 (.c (bs.length:Int)))))else none
       |none=>none
     |_=>none
   | [x],some .string=>match bJ st G x with
     |some (.str bs)=>some ([],.v (.one (.i .i64 (.c (bs.length:Int)))))
     |_=>none
   |_,_=>none
 | .call {callee:=.builtin .max,args,..}=>match args.toList with
   | [x,y]=>match bJ st G x,bJ st G y with
     |some (.i k a),some (.i k' b)=>if k=k' then some ([],.v (.one (.i k (IE.max a b).mk)))else none
     |_,_=>none
   | [x,y,z]=>match bJ st G x,bJ st G y,bJ st G z with
     |some (.i k a),some (.i k' b),some (.i k'' c)=>if k=k'/\k=k'' then some ([],.v (.one (.i k (IE.max (IE.max a b).mk c).mk)))else none
     |_,_,_=>none
   |_=>none
 | .call {callee:=.builtin .min,args,..}=>match args.toList with
   | [x,y]=>match bJ st G x,bJ st G y with
     |some (.i k a),some (.i k' b)=>if k=k' then some ([],.v (.one (.i k (IE.min a b).mk)))else none
     |_,_=>none
   | [x,y,z]=>match bJ st G x,bJ st G y,bJ st G z with
     |some (.i k a),some (.i k' b),some (.i k'' c)=>if k=k'/\k=k'' then some ([],.v (.one (.i k (IE.min (IE.min a b).mk c).mk)))else none
     |_,_,_=>none
   |_=>none
 |_=>none
def St.put(st:St)(dst:Option Tmp)(s:bc):St:=
 match dst with
 |some d=>{st with tmps:=st.tmps.set d (some s) }
 |none=>st
def St.Md(st:St)(dst:Option Tmp)(s:bc):Option St:=if s.all st.has then some (st.put dst s)else none
def x8(st:St)(b:iX):St:={st with bl:=st.bl.map fun x=>if x.id=b.id then b else x}
def tq(st:St)(G:BE):CT->ak->Option DE
 |.c (.i k),.i k' e=>if k=k' then some (.i e)else none
 |.c .b,.b e=>some (.b e)
 |.c .f,.fl e=>some (.i e)
 | .s e ks,.s row=>match bO st row with
   |some r=>if G.jt r.g&&decide (r.e=e)&&decide (r.ks=ks)then some (.l r.lv)else none
   |none=>none
 |.s _ ks,.lM=>if 0<ks.length then some .nil else none
 | .n e aU,.s row=>match bO st row with
   |some _=>none
   | none=>match fx st row with
     |some r=>if G.jt r.g&&decide (r.e=e)&&decide (r.aU=aU)then some (.l r.lv)else none
     |none=>none
 |.n _ aU,.lM=>if 0<aU.length then some .nil else none
 |_,_=>none
def cQ(st:St)(G:BE):List CT->List ak->Option (List DE)
 | [],[]=>some []
 | c::cs,l::ls=>match tq st G c l,cQ st G cs ls with
   |some d,some ds=>some (d::ds)
   |_,_=>none
 |_,_=>none
def ux(k:IntKind):List ak->Option (List IE)
 | []=>some []
 | .i k' e::ls=>if k=k' then(match ux k ls with
   |some es=>some (e::es)
   |none=>none)else none
 |_::_=>none
def oF:CK->ak->Option (Sum IE BE)
 |.i k,.i k' e=>if k=k' then some (.inl e)else none
 |.b,.b e=>some (.inr e)
 |_,_=>none
def fi:List CK->List ak->Option (List (Sum IE BE))
 | [],[]=>some []
 | k::ks,l::ls=>match oF k l,fi ks ls with
   |some x,some xs=>some (x::xs)
   |_,_=>none
 |_,_=>none
def Dd(st:St)(G:BE)(e:TypeId)(ks:List CK):ak->Option DE
 | .p id 0=>match gT st id with
   | some b=>match ks with
     | [.i k]=>if b.cells.length<=65536 then(ux k b.cells).map DE.rows else none
     |ks=>if 0<ks.length then(fi ks b.cells).map DE.vP else none
   |none=>none
 | .ep row sz (.c 0) 0=>match bO st row with
   |some r=>if G.jt r.g&&decide (r.e=e)&&decide (r.ks=ks)&&decide (sz=ks.length)then some (.l r.lv)else none
   |none=>none
 |_=>none
def rn(c:Bool×Nat):ak:=if c.1 then .ep c.2 1 (.c 0) 0 else .p c.2 0
def vQ(st:St)(G:BE):List (TypeId×IntKind)->List (Bool×Nat)->Option (List DE)
 | [],[]=>some []
 | (e,k)::cs,c::dT=>match Dd st G e [.i k] (rn c),vQ st G cs dT with
   |some d,some ds=>some (d::ds)
   |_,_=>none
 |_,_=>none
def Y7(st:St)(G:BE):VT->V1->Option (List DE)
 |.one c,.one l=>(tq st G c l).map fun d=>[d]
 |.agg cs,.agg ls=>cQ st G cs ls
 |.ptr e ks,.one l=>(Dd st G e ks l).map fun d=>[d]
 |.fn g cs,.one (.fn g' dT)=>if g=g' then vQ st G cs dT else none
 |_,_=>none
def oL(st:St)(G:BE):List VT->List V1->Option (List DE)
 | [],[]=>some []
 | t::ts,v::vs=>match Y7 st G t v,oL st G ts vs with
   |some d,some ds=>some (d++ds)
   |_,_=>none
 |_,_=>none
def mV(b:iX):List iX->List iX
 | []=>[b]
 |x::xs=>if x.id<b.id then b::x::xs else x::mV b xs
def dN(r:Row):List Row->List Row
 | []=>[r]
 |x::xs=>if x.id<r.id then r::x::xs else x::dN r xs
def dB(rs l:List Row):List Row:=rs.foldr dN l
def vO(r:eO):List eO->List eO
 | []=>[r]
 |x::xs=>if x.id<r.id then r::x::xs else x::vO r xs
def sk(rs l:List eO):List eO:=rs.foldr vO l
def dg(G:BE)(id:Nat):CT->ak×List Row
 |.c (.i k)=>(.i k (.v id),[])
 |.c .b=>(.b (.v id),[])
 |.c .f=>(.fl (.v id),[])
 |.s e ks=>(.s id,[{id,e,ks,lv:=id,own:=true,g:=G}])
 |.n _ _=>(.s id,[])
def aP(G:BE):Nat->List CT->List ak×List Row
 |_,[]=>([],[])
 |id,c::cs=>let(l,r):=dg G id c;let(ls,rs):=aP G (id+1) cs;(l::ls,r++rs)
def iQ(G:BE):Nat->List (TypeId×IntKind)->List (Bool×Nat)×List Row
 |_,[]=>([],[])
 |id,(e,k)::cs=>((true,id)::(iQ G (id+1) cs).1,{id,e,ks:=[.i k],lv:=id,own:=true,g:=G}::(iQ G (id+1) cs).2)
def j6(G:BE)(id:Nat):VT->V1×List Row
 |.one c=>let(l,r):=dg G id c;(.one l,r)
 |.agg cs=>let(ls,r):=aP G id cs;(.agg ls,r)
 |.ptr e ks=>(.one (.ep id ks.length (.c 0) 0),[{id,e,ks,lv:=id,own:=true,g:=G}])
 |.fn g cs=>(.one (.fn g (iQ G id cs).1),(iQ G id cs).2)
def cq(G:BE):Nat->List VT->List V1×List Row
 |_,[]=>([],[])
 |id,t::ts=>let(v,r):=j6 G id t;let(vs,rs):=cq G (id+t.bP.length) ts;(v::vs,r++rs)
def eR(own:Bool)(G:BE):Nat->List CT->List eO
 |_,[]=>[]
 |id,.n e aU::cs=>⟨id,e,aU,id,G,own⟩::eR own G (id+1) cs
 |id,_::cs=>eR own G (id+1) cs
def qK:List V1->SV
 | [x]=>.v x
 |xs=>.H5 xs
def ry(x:IE)(l:ak)(sz:Nat)(cells:List ak)(off:Nat):Nat->Nat->Option (List ak)
 |_,0=>some cells
 | j,n+1=>match cells[off]?,l with
   |some (.i k a),.i k' b=>if k=k' then ry x l sz (cells.set off (.i k (.ju x j b a))) (off+sz) (j+1) n else none
   |some (.b p),.b q=>ry x l sz (cells.set off (.b (.or (.and (.eq x (.c (j:Int))) q) (.and (.not (.eq x (.c (j:Int)))) p)))) (off+sz) (j+1) n
   |_,_=>none
def wM(x:IE)(sz n:Nat)(cells:List ak)(off:Nat):List ak->Option (List ak)
 | []=>some cells
 | l::ls=>match ry x l sz cells off 0 n with
   |some cs=>wM x sz n cs (off+1) ls
   |none=>none
def kT:bc:=⟨.c false,.v (.one (.b (.c false)))⟩
def qD(st:St)(key:Nat)(e:TypeId)(ls:List ak)(dst:Option Tmp):Option (List Ev×St):=
 if st.free key 1&&bG st.has ls then
   some ([],{st.bK key 1 with bl:=mV ⟨key,e,ls⟩ st.bl}.put dst ⟨.c true,.v (.one (.p key 0))⟩)
 else none
def Cp(st:St)(key:Nat)(e:TypeId)(aU:List NK)(dJ:List Ev)(op:ew)(rows:List Row)(bp:List eO)(dst:Option Tmp):Option (List Ev×St):=
 if st.free key 1&&decide (0<aU.length)then
   some (dJ++[.b8 key op],{st.bK key 1 with rows,bp:=vO ⟨key,e,aU,key,.c true,true⟩ bp}.put dst ⟨.c true,.v (.one (.s key))⟩)
 else none
def setCells(st:St)(b:iX)(cs:List ak)(dst:Option Tmp):Option (List Ev×St):=
 if bG st.has cs then some ([],(x8 st {b with cells:=cs}).put dst kT)else none
def newRow(st:St)(G:BE)(key:Nat)(e:TypeId)(ks:List CK)(dJ:List Ev)(op:ew)(rows:List Row)(dst:Option Tmp):Option (List Ev×St):=
 if st.free key 1&&G.all st.has then
   some (dJ++[.b8 key op],{st.bK key 1 with rows:=dN ⟨key,e,ks,key,true,G⟩ rows}.put dst ⟨G,.v (.one (.s key))⟩)
 else none
def tf(st:St)(l:ak)(ls:List ak)(key:Nat)(dst:Option Tmp):Option (List Ev×St):=
 match l with
 | .p id off=>match gT st id with
   |some b=>if off+ls.length<=b.cells.length then setCells st b (je b.cells off ls) dst else none
   |none=>none
 | .pi id off sz n x=>match gT st id with
   | some b=>match wM x sz n b.cells off ls with
     | some cs=>if 0<n/\ls.length<=sz/\0<ls.length then(match setCells st b cs dst with
       |some (dJ,bq)=>some (.aH (BE.le (.c 0) x).mk :: .aH (BE.lt x (.c (n:Int))).mk::dJ,bq)
       |none=>none)else none
     |none=>none
   |none=>none
 | .ep row sz x j=>match bO st row,ls with
   | some r,[l]=>match r.ks[j]? with
     | some kj=>match oF kj l with
       |some y=>if r.own&&decide (r.g = .c true)&&decide (r.ks.length=sz)&&st.free key 1 then
       some ([.aH (BE.le (.c 0) x).mk,.aH (BE.lt x (.len r.lv)).mk,.b8 key (.set r.lv x j y)],
         {st.bK key 1 with rows:=dN {r with lv:=key} (st.rows.filter fun z=>decide (z.id≠row)) }.put dst kT)else none
       |none=>none
     |none=>none
   | some r,ls=>match fi r.ks ls with
     |some es=>if r.own&&decide (r.g = .c true)&&decide (r.ks.length=sz)&&decide (j=0)&&decide (1<sz)&&st.free key 1 then
         some ([.aH (BE.le (.c 0) x).mk,.aH (BE.lt x (.len r.lv)).mk,.b8 key (.zK r.lv x es)],
           {st.bK key 1 with rows:=dN {r with lv:=key} (st.rows.filter fun z=>decide (z.id≠row)) }.put dst kT)else none
     | none=>match fi ((r.ks.drop j).take ls.length) ls with
       |some es=>if r.own&&decide (r.g = .c true)&&decide (r.ks.length=sz)&&decide (j+ls.length<=sz)&&decide (0<ls.length)&&st.free key 1 then
           some ([.aH (BE.le (.c 0) x).mk,.aH (BE.lt x (.len r.lv)).mk,.b8 key (.Em r.lv x j es)],
             {st.bK key 1 with rows:=dN {r with lv:=key} (st.rows.filter fun z=>decide (z.id≠row)) }.put dst kT)else none
       |none=>none
   |_,_=>none
 |_=>none
def pD(ks:List CK):Nat->Nat->List (Nat×V1)->Option (List (List (Sum IE BE)))
 |0,_,[]=>some []
 |n+1,i,(j,v)::ps=>if i=j then
     (match fi ks v.leaves,pD ks n (i+1) ps with
     |some r,some rs=>some (r::rs)
     |_,_=>none)else none
 |_,_,_=>none
def ma(P:Program)(e:TypeId):Option Nat:=
 match P.info? e with
 | some i=>match i.zero with
   |some z=>if decide (0<i.bytes)&&decide (0<i.size)&&decide (z.cells.size=i.size)then some (140737488355328/i.bytes)else none
   |none=>none
 |none=>none
def J8(g:TypeId->Option (List NK)):List Field->Option (List NK)
 | []=>some []
 | f::fs=>match g f.type,J8 g fs with
   |some m,some r=>some (m++r)
   |_,_=>none
def OK(P:Program):Nat->TypeId->Option (List NK)
 |0,_=>none
 | n+1,t=>match P.underlying t with
   |some (.int k)=>some [.c (.i k)]
   |some .bool=>some [.c .b]
   | some (.slice e)=>match flat P 16 e with
     |some [k]=>some [.s e k]
     |_=>none
   |some (.struct fs)=>J8 (OK P n) fs.toList
   |some (.array len e)=>(OK P n e).map fun m=>(List.replicate len m).flatten
   |_=>none
def oJ(st:St):List NK->List ak->Option (List cN×List Nat)
 | [],[]=>some ([],[])
 | .c k::aU,l::ls=>match oF k l,oJ st aU ls with
   |some x,some (xs,gs)=>some (.c x::xs,gs)
   |_,_=>none
 | .s e k::aU,.s r::ls=>match bO st r,oJ st aU ls with
   |some x,some (xs,gs)=>if x.own&&decide (x.g = .c true)&&decide (x.e=e)&&decide (x.ks=[k])then some (.s x.lv::xs,r::gs)else none
   |_,_=>none
 | .s _ _::aU,.lM::ls=>match oJ st aU ls with
   |some (xs,gs)=>some (.nil::xs,gs)
   |none=>none
 |_,_=>none
def mG(st:St)(aU:List NK):Nat->Nat->List (Nat×V1)->Option (List (List cN)×List Nat)
 |0,_,[]=>some ([],[])
 |n+1,i,(j,v)::ps=>if i=j then
     (match oJ st aU v.leaves,mG st aU n (i+1) ps with
     |some (r,g),some (rs,gs)=>some (r::rs,g++gs)
     |_,_=>none)else none
 |_,_,_=>none
def yp:List Nat->Bool
 | []=>true
 |x::xs=>!xs.contains x&&yp xs
def kZ(sz:Nat):Nat->Nat->List (Nat×V1)->Option (List ak)
 |0,_,[]=>some []
 |n+1,i,(j,v)::ps=>if i=j/\v.leaves.length=sz then(kZ sz n (i+1) ps).map fun ls=>v.leaves++ls else none
 |_,_,_=>none
def acH(P:Program)(bsl:List TypeId)(st:St)(G:BE)(key:Nat)(dst:Option Tmp)(t:TypeId)(n:Nat)(parts:Array (Nat×Operand)):Option (List Ev×St):=
 match P.underlying t,iN st G parts.toList with
 |some (.slice e),some ps=>if bsl.contains e then(if decide (G = .c true)&&((P.info? e).bind (·.zero)).isSome&&decide (0<P.cellsOf e)&&decide (n*P.cellsOf e<=16777216)then
     (match kZ (P.cellsOf e) n 0 ps with
     |some ls=>if st.free key 1&&bG st.has ls then some ([],{st.bK key 1 with bl:=mV ⟨key,e,ls⟩ st.bl}.put dst ⟨.c true,.v (.one (.bs key n (P.cellsOf e)))⟩)else none
     |none=>none)else none)else match flat P 16 e with
   |some ks=>if decide (0<ks.length)&&((P.info? e).bind (·.zero)).isSome&&decide (n*ks.length<=16777216)&&decide (P.cellsOf e=ks.length)then
       (match pD ks n 0 ps with
       |some rows=>newRow st G key e ks [] (.lit rows) st.rows dst
       |none=>none)else none
   | none=>match OK P 16 e with
     |some aU=>if decide (G = .c true)&&((P.info? e).bind (·.zero)).isSome&&decide (n*aU.length<=16777216)&&decide (P.cellsOf e=aU.length)then
         (match mG st aU n 0 ps with
         |some (rows,gone)=>if yp gone then Cp st key e aU [] (.Eu rows) (st.rows.filter fun r=>!gone.contains r.id) st.bp dst else none
         |none=>none)else none
     |none=>none
 |_,_=>none
def sj(G:BE):List BE->List Ev
 | []=>[]
 | n::ns=>match BE.under G n with
   |.c true=>sj G ns
   |m=>.aH m::sj G ns
def gl(lv:Nat)(i:IE)(key:Nat):Nat->List NK->List ak
 |_,[]=>[]
 |j,.c k::aU=>rl lv i j k::gl lv i key (j+1) aU
 |j,.s _ _::aU=>.s (key+j)::gl lv i key (j+1) aU
def Gs(lv:Nat)(i:IE)(key:Nat)(all:List NK):Nat->List NK->List Ev
 |_,[]=>[]
 |j,.c _::aU=>Gs lv i key all (j+1) aU
 |j,.s _ _::aU=>.b8 (key+j) (.sub lv i all j)::Gs lv i key all (j+1) aU
def kY(G:BE)(key:Nat):Nat->List NK->List Row
 |_,[]=>[]
 |j,.c _::aU=>kY G key (j+1) aU
 |j,.s e k::aU=>⟨key+j,e,[k],key+j,false,G⟩::kY G key (j+1) aU
def Xz(P:Program)(st:St)(G:BE)(key:Nat)(dst:Option Tmp)(t:TypeId)(n:eO)(i:IE)(j:Nat):Option (List Ev×St):=
 if(P.underlying t).isSome&&decide (0<n.aU.length)&&G.jt n.g&&G.all st.has&&st.free key n.aU.length&&i.all st.has&&st.has n.lv then
   (if ie P t then(if j=0/\P.cellsOf t=n.aU.length then
       some (sj G [(BE.le (.c 0) i).mk,(BE.lt i (.len n.lv)).mk]++Gs n.lv i key n.aU 0 n.aU,
         {st.bK key n.aU.length with rows:=dB (kY G key 0 n.aU) st.rows}.put dst ⟨G,.v (.agg (gl n.lv i key 0 n.aU))⟩)else none)
   else(match(gl n.lv i key 0 n.aU)[j]? with
     |some l=>if 0<P.cellsOf t then some (sj G [(BE.le (.c 0) i).mk,(BE.lt i (.len n.lv)).mk]++Gs n.lv i key n.aU 0 n.aU,
         {st.bK key n.aU.length with rows:=dB (kY G key 0 n.aU) st.rows}.put dst ⟨G,.v (.one l)⟩)else none
     |none=>none))
 else none
def J9(P:Program)(st:St)(G:BE)(key:Nat)(dst:Option Tmp)(t:TypeId)(x:Operand):Option (List Ev×St):=
 match bJ st G x with
 | some (.ep row sz i j)=>match bO st row with
   |some _=>none
   | none=>match fx st row with
     |some n=>if sz=n.aU.length then Xz P st G key dst t n i j else none
     |none=>none
 |_=>none
def zeroOf:CK->ak
 |.i k=>.i k (.c 0)
 |.b=>.b (.c false)
 |.f=>.fl (.c 0)
def OG(P:Program)(st:St)(key:Nat)(dst:Option Tmp)(op:Op):Option (List Ev×St):=
 match op with
 | .alloc e=>match qC P e with
   |some z=>qD st key e z.leaves dst
   |none=>none
 | .box e x=>match lS st (.c true) x with
   |some v=>qD st key e v.leaves dst
   |none=>none
 | .store t a x=>match bJ st (.c true) a,lS st (.c true) x with
   |some l,some v=>if v.leaves.length=P.cellsOf t/\0<P.cellsOf t then tf st l v.leaves key dst else none
   |_,_=>none
 | .makeSlice t n c=>match P.underlying t,bJ st (.c true) n,bJ st (.c true) c with
   | some (.slice e),some (.i _ x),some (.i _ y)=>match ma P e,flat P 16 e,qC P e with
     |some room,some ks,some z=>if decide (0<ks.length)&&decide (P.cellsOf e=ks.length)&&decide (z.leaves=ks.map zeroOf)then
         (if x=y then newRow st (.c true) key e ks [.aH (BE.le (.c 0) x).mk,.aH (BE.le x (.c (room:Int))).mk] (.rep x (List.replicate ks.length 0)) st.rows dst
         else newRow st (.c true) key e ks [.aH (BE.le (.c 0) x).mk,.aH (BE.le x y).mk,.aH (BE.le y (.c (room:Int))).mk] (.rep x (List.replicate ks.length 0)) st.rows dst)else none
     |_,_,_=>none
   |_,_,_=>none
 | .slice t x none (some h) none=>match P.underlying t,bJ st (.c true) x,bJ st (.c true) h with
   | some (.slice e),some (.s a),some (.i _ n)=>match bO st a with
     |some ra=>if ra.own&&decide (ra.g = .c true)&&decide (ra.e=e)&&decide (P.cellsOf e=ra.ks.length)then
         newRow st (.c true) key e ra.ks [.aH (BE.le (.c 0) n).mk,.aH (BE.le n (.len ra.lv)).mk] (.take ra.lv n) (st.rows.filter fun r=>decide (r.id≠a)) dst else none
     | none=>match fx st a with
       |some ra=>if ra.own&&decide (ra.e=e)&&decide (P.cellsOf e=ra.aU.length)then
           Cp st key e ra.aU [.aH (BE.le (.c 0) n).mk,.aH (BE.le n (.len ra.lv)).mk] (.take ra.lv n) st.rows (st.bp.filter fun r=>decide (r.id≠a)) dst else none
       |none=>none
   |_,_,_=>none
 | .call {callee:=.builtin .append,args,argTypes}=>match args.toList,argTypes.toList with
   | [x,y],[t,t']=>if t=t' then(match P.underlying t with
     | some (.slice e)=>match ma P e,bJ st (.c true) x,bJ st (.c true) y with
       | some room,some .lM,some (.s b)=>match bO st b with
         |some rb=>if decide (rb.g = .c true)&&decide (rb.e=e)&&decide (P.cellsOf e=rb.ks.length)then
             newRow st (.c true) key e rb.ks [.aH (BE.le (.len rb.lv) (.c (room:Int))).mk] (.cp rb.lv) st.rows dst else none
         | none=>match fx st b with
           |some rb=>if rb.own&&decide (rb.e=e)&&decide (P.cellsOf e=rb.aU.length)then
               Cp st key e rb.aU [.aH (BE.le (.len rb.lv) (.c (room:Int))).mk] (.cp rb.lv) st.rows st.bp dst else none
           |none=>none
       | some room,some (.cs a),some (.s b)=>match bO st a,bO st b with
         |some ra,some rb=>if decide (ra.g = .c true)&&decide (rb.g = .c true)&&decide (ra.e=e)&&decide (rb.e=e)&&decide (ra.ks=rb.ks)&&decide (P.cellsOf e=ra.ks.length)then
             newRow st (.c true) key e ra.ks [.aH (BE.lt (.c 0) (.len rb.lv)).mk,.aH (BE.le (IE.add (.len ra.lv) (.len rb.lv)).mk (.c (room:Int))).mk] (.app ra.lv rb.lv) st.rows dst else none
         |_,_=>none
       | some room,some (.s a),some (.s b)=>match bO st a,bO st b with
         |some ra,some rb=>if ra.own&&decide (ra.g = .c true)&&decide (rb.g = .c true)&&decide (ra.e=e)&&decide (rb.e=e)&&decide (ra.ks=rb.ks)&&decide (a≠b)&&decide (P.cellsOf e=ra.ks.length)then
             newRow st (.c true) key e ra.ks [.aH (BE.le (IE.add (.len ra.lv) (.len rb.lv)).mk (.c (room:Int))).mk] (.app ra.lv rb.lv) (st.rows.filter fun r=>decide (r.id≠a)) dst else none
         | none,none=>match fx st a,fx st b with
           |some ra,some rb=>if ra.own&&rb.own&&decide (ra.e=e)&&decide (rb.e=e)&&decide (ra.aU=rb.aU)&&decide (a≠b)&&decide (P.cellsOf e=ra.aU.length)then
               Cp st key e ra.aU [.aH (BE.le (IE.add (.len ra.lv) (.len rb.lv)).mk (.c (room:Int))).mk] (.app ra.lv rb.lv) st.rows (st.bp.filter fun r=>decide (r.id≠a)) dst else none
           |_,_=>none
         |_,_=>none
       |_,_,_=>none
     |_=>none)else none
   |_,_=>none
 | .call {callee:=.builtin .copy,args,argTypes}=>match args.toList,argTypes.toList with
   | [x,y],[t,t']=>if t=t' then(match P.underlying t,bJ st (.c true) x,bJ st (.c true) y with
     | some (.slice e),some (.s a),some (.s b)=>match bO st a,bO st b with
       |some ra,some rb=>if ra.own&&decide (ra.g = .c true)&&decide (rb.g = .c true)&&decide (ra.ks=rb.ks)&&decide (a≠b)&&decide (P.cellsOf e=ra.ks.length)&&(P.info? e).isSome&&st.free key 1 then
           some ([.b8 key (.UR ra.lv rb.lv)],{st.bK key 1 with rows:=dN {ra with lv:=key} (st.rows.filter fun r=>decide (r.id≠a)) }.put dst ⟨.c true,.v (.one (.i .i64 (.min (.len ra.lv) (.len rb.lv))))⟩)else none
       |_,_=>none
     |_,_,_=>none)else none
   |_,_=>none
 | .call {callee:=.builtin .clear,args,argTypes}=>match args.toList,argTypes.toList with
   | [x],[t]=>match P.underlying t,bJ st (.c true) x with
     | some (.slice e),some (.s a)=>match bO st a,qC P e with
       |some ra,some z=>if ra.own&&decide (ra.g = .c true)&&decide (P.cellsOf e=ra.ks.length)&&(P.info? e).isSome&&decide (z.leaves=ra.ks.map zeroOf)&&st.free key 1 then
           some ([.b8 key (.rep (.len ra.lv) (List.replicate ra.ks.length 0))],{st.bK key 1 with rows:=dN {ra with lv:=key} (st.rows.filter fun r=>decide (r.id≠a)) }.put dst ⟨.c true,.H5 []⟩)else none
       |_,_=>none
     |_,_=>none
   |_,_=>none
 | .convert src L4 x=>match P.underlying src,P.underlying L4,bJ st (.c true) x with
   | some .string,some (.slice e),some (.str bs)=>match P.underlying e with
     |some (.int .u8)=>if(P.info? e).isSome&&decide (P.cellsOf e=1)&&decide (bs.length<=4096)&&st.free key 1 then some ([.b8 key (.lit (bs.map fun b=>[Sum.inl (IE.c (b.toNat:Int))]))],{st.bK key 1 with rows:=dN ⟨key,e,[.i .u8],key,false,.c true⟩ st.rows}.put dst ⟨.c true,.v (.one (.kb key bs))⟩)else none
     |_=>none
   |_,_,_=>none
 |_=>none
def CT.xI:CT->Bool
 |.n _ _=>true
 |_=>false
def CT.isS:CT->Bool
 |.s _ _=>true
 |_=>false
def rH(cs:List CT):Bool:=!cs.any CT.xI||(!cs.any CT.isS&&decide (cs.countP CT.xI<=1))
def width(vs:List VT):Nat:=(bP vs).length
def bL(vs:List V1):List ak:=vs.flatMap V1.leaves
def dc(ls:List ak):List Nat:=ls.filterMap fun| .s r=>some r|_=>none
def iY:List VT->Bool
 | []=>true
 |.ptr _ _::_=>false
 |.fn _ _::_=>false
 |.one (.n _ _)::_=>false
 |.one _::ts=>iY ts
 |.agg cs::ts=>cs.all (fun| .n _ _=>false|_=>true)&&iY ts
def fB:List VT->Bool
 | []=>true
 |.ptr _ _::_=>false
 |.fn _ _::_=>false
 |_::ts=>fB ts
def Y8(st:St)(key:Nat)(dst:Option Tmp)(f:FuncId)(sg:bX)(vs:List V1):Option (List Ev×St):=
 match oL st (.c true) sg.args vs with
 | some ds=>
   let gone:=dc ((bL vs).take sg.cons)
   if st.free key (width sg.res)&&iY sg.args&&iY sg.res&&yp gone&&gone.all (fun r=>match bO st r with|some x=>x.own&&decide (x.g = .c true)|none=>false)then
     some ([.call f (.c true) ds sg.res key],{st.bK key (width sg.res)with rows:=dB (cq (.c true) key sg.res).2 (st.rows.filter fun r=>!gone.contains r.id) }.put dst ⟨.c true,qK (cq (.c true) key sg.res).1⟩)else none
 |none=>none
def Me(aR:lg)(st:St)(G:BE)(key:Nat)(dst:Option Tmp)(f:FuncId)(vs:List V1):Option (List Ev×St):=
 match aR.sig f with
 | some sg=>if sg.cons≠0 then(if G = .c true then Y8 st key dst f sg vs else none)else match oL st G sg.args vs with
   |some ds=>if st.free key (width sg.res)&&rH (bP sg.res)&&G.all st.has then
       some ([.call f G ds sg.res key],{st.bK key (width sg.res)with rows:=dB (cq G key sg.res).2 st.rows,bp:=sk (eR (decide (G=BE.c true)) G key (bP sg.res)) st.bp}.put dst ⟨G,qK (cq G key sg.res).1⟩)else none
   |none=>none
 |none=>none
def cop(aR:lg)(st:St)(G:BE)(key:Nat)(dst:Option Tmp)(f:FuncId)(args:List Operand):Option (List Ev×St):=
 match mb st G args with
 |some vs=>Me aR st G key dst f vs
 |none=>none
def US(agg:Bool)(ls:List dK):V1:=if agg then .agg (ls.map dK.up)else .one ((ls.map dK.up).headD .lM)
def Y9(aR:lg)(st:St)(G:BE)(key:Nat)(dst:Option Tmp)(x:Operand)(args:List Operand):Option (List Ev×St):=
 match bJ st G x,mb st G args with
 |some (.fn g dT),some vs=>Me aR st G key dst g (vs++dT.map fun c=>.one (rn c))
 |some (.f g),some vs=>Me aR st G key dst g vs
 |some (.bf g agg ls),some vs=>if agg||decide (ls.length=1)then Me aR st G key dst g (US agg ls::vs)else none
 |_,_=>none
def guardOf(ops:Array Oper)(st:St)(o:Oper):Option BE:=
 match o.guard with
 |none=>some (.c true)
 | some (j,want)=>match(ops[j]?).bind (·.dst)with
   | some t=>match st.tmps[t]? with
     |some (some ⟨g,.v (.one (.b p))⟩)=>some (BE.and g (if want then p else(BE.not p).mk)).mk
     |_=>none
   |none=>none
def St.forget(st:St)(dst:Option Tmp):St:=
 match dst with
 |some d=>{st with tmps:=st.tmps.set d none}
 |none=>st
def GB(P:Program)(aR:lg)(st:St)(G:BE)(dst:Option Tmp)(t:TypeId)(g:Nat):Option (List Ev×St):=
 match aR.y8.find? (fun p=>p.1==g)with
 | some p=>match sT P t (p.2.map fun n=>ak.i .i64 (.c n)) 0 with
   |some v=>(st.Md dst ⟨G,.v v⟩).map fun bq=>([],bq)
   |none=>none
 |none=>none
def tt(P:Program)(aR:lg)(ops:Array Oper)(st:St)(key:Nat)(o:Oper):Option (List Ev×St):=
 match guardOf ops st o with
 |none=>none
 |some (.c false)=>some ([],st.put o.dst kT)
 | some G=>match YV P aR.hO st G o.op with
   | some (ns,sv)=>match st.Md o.dst ⟨G,sv⟩with
     |some bq=>some (sj G ns,bq)
     |none=>none
   | none=>match o.op with
     |.assign (.const _)=>some ([],st.forget o.dst)
     |.call {callee:=.value (.func f),args,..}=>cop aR st G key o.dst f args.toList
     |.call {callee:=.value (.tmp t),args,..}=>Y9 aR st G key o.dst (.tmp t) args.toList
     |.buildSlice t n parts=>acH P aR.bsl st G key o.dst t n parts
     |.load t (.global g)=>GB P aR st G o.dst t g
     |.load t x=>J9 P st G key o.dst t x
     |op=>if G = .c true then OG P st key o.dst op else none
def iB:Nat:=512
def J':Nat:=16
inductive Spec where
 |inl (g:FuncId) (vs:List V1)
 |val (x:V1)
 |aH (ok:BE) (e:IE)
 |Mf (g:FuncId) (vs:List V1)
def idxOf(bs:List UInt8)(b:Int):Int:=match(List.range bs.length).find? fun i=>decide (((bs[i]?).map fun x=>(x.toNat:Int))=some b)with
 |some i=>(i:Int)
 |none=>-1
def wU(dT:List (Bool×Nat)):List V1:=dT.map fun c=>.one (rn c)
def yq(aR:lg)(st:St)(G:BE)(op:Op):Option Spec:=
 match op with
 | .call {callee:=.value (.func f),args,..}=>match mb st G args.toList with
   | some vs=>if ei st.has vs then
     (if aR.aH=some f then(match vs with
       | [.one (.b ok),.one (.i .i64 e)]=>some (.aH ok e)
       |_=>none)
     else if aR.yn=some f then(match vs with
       | [.one (.fn g dT)]=>some (.Mf g (wU dT))
       |_=>none)
     else if aR.zR=some f then(match vs with
       | [.one (.str bs),.one (.i .u8 (.c b))]=>if 0<=b/\b<256 then some (.val (.one (.i .i64 (.c (idxOf bs b)))))else none
       |_=>none)
     else if aR.inl.contains f then some (.inl f vs)else none)else none
   |none=>none
 | .call {callee:=.value (.tmp t),args,..}=>match bJ st G (.tmp t),mb st G args.toList with
   |some (.fn g dT),some vs=>if aR.inl.contains g&&ei st.has (vs++wU dT)then some (.inl g (vs++wU dT))else none
   |some (.f g),some vs=>if aR.inl.contains g&&ei st.has vs then some (.inl g vs)else none
   |some (.bf g agg ls),some vs=>if aR.inl.contains g&&ei st.has (US agg ls::vs)&&(agg||decide (ls.length=1))then some (.inl g (US agg ls::vs))else none
   |_,_=>none
 |_=>none
def bc.know(p:BE)(v:Bool)(s:bc):bc:=
 match s.sv with
 |.v (.one (.b x))=>if x=p then {s with sv:=.v (.one (.b (.c v))) }else if x=(BE.not p).mk then {s with sv:=.v (.one (.b (.c !v))) }else s
 |_=>s
def St.know(st:St)(p:BE)(v:Bool):St:={st with tmps:=st.tmps.map fun s=>s.map (bc.know p v) }
def oM(h:Option St)(st:St):Bool:=
 match h with
 |none=>true
 |some hs=>hs.bl.all (fun b=>decide (gT st b.id=some b))&&hs.rows.all (fun r=>decide (bO st r.id=some r))&&hs.bp.all (fun r=>st.bp.contains r)
def XA(h:Option St)(st:St)(e:IE):aA:=if oM h st&&e.all st.has then .fail e else .stuck ("given up" ++ (match h with
 |some hs=>String.join (hs.bl.filterMap fun b=>if gT st b.id=some b then none else some (" blk " ++ toString b.id))++String.join (hs.rows.filterMap fun b=>if bO st b.id=some b then none else some (" row " ++ toString b.id))
 |none=> ""))
def vR(st bq:St)(dst:Option Tmp)(sv:SV):St:={bq with tmps:=(st.put dst ⟨.c true,sv⟩).tmps}
def rI(fn:Func)(vs:List V1)(st:St):St:={st with tmps:=vs.map (fun v=>some ⟨.c true,.v v⟩)++List.replicate (fn.ntmps-vs.length) none}
def UT(st:St):St:={st with next:=st.next+iB,qh:=[] }
def acI(P:Program)(st:St):ResultVar->Option V1
 |.tmp t=>lS st (.c true) (.tmp t)
 | .cell a t=>match bJ st (.c true) (.tmp a)with
   |some (.p id off)=>(CY P st (.c true) t (.p id off)).map fun r=>r.2
   |_=>none
def tu(P:Program)(st:St):List ResultVar->Option (List V1)
 | []=>some []
 | r::rs=>match acI P st r,tu P st rs with
   |some v,some vs=>some (v::vs)
   |_,_=>none
def wV(P:Program)(cH:St)(W:List Nat)(st:St)(G:BE)(op:Op):Bool:=
 match op with
 | .load _ x=>match bJ st G x with
   |some (.p id _)=>!W.contains id&&cH.bl.any (fun b=>b.id==id)
   |some (.pi id _ _ _ _)=>!W.contains id&&cH.bl.any (fun b=>b.id==id)
   |some (.ep row _ _ _)=>!W.contains row&&decide (bO st row=bO cH row)
   |_=>false
 |_=>true
abbrev Y':=St->Nat->Oper->Option (List Ev×St)
def written(Cb:Y')(sd base:Nat):Nat->List Oper->St->Option (List (Nat×Nat))
 |_,[],_=>some []
 | i,o::rest,st=>match Cb st (base+i*sd) o with
   | some (_,bq)=>match written Cb sd base (i+1) rest bq with
     | some W=>match o.op with
       | .store _ a _=>match bJ st (.c true) a with
         |some (.p id _)=>some ((i,id)::W)
         |some (.pi id _ _ _ _)=>some ((i,id)::W)
         |some (.ep row _ _ _)=>some ((i,row)::W)
         |_=>none
       | .call {callee:=.builtin .append,args,..}=>match args.toList with
         | x::_=>match bJ st (.c true) x with
           |some (.s row)=>some ((i,row)::W)
           |some .lM=>some W
           |some (.cs _)=>some W
           |_=>none
         | []=>none
       | .slice _ x _ _ _=>match bJ st (.c true) x with
         |some (.s row)=>some ((i,row)::W)
         |some _=>some W
         |_=>none
       |.call {callee:=.builtin .copy,..}=>none
       |.call {callee:=.builtin .clear,..}=>none
       |_=>some W
     |none=>none
   |none=>none
def wW(W:List Nat)(st:St):ak->Bool
 |.p id _=>W.contains id&&(gT st id).isSome
 |.pi id _ _ _ _=>W.contains id&&(gT st id).isSome
 | .ep row _ _ _=>W.contains row&&(match bO st row with
   |some r=>r.own&&decide (r.g = .c true)
   |none=>false)
 | .s row=>W.contains row&&(match bO st row with
   |some r=>r.own&&decide (r.g = .c true)
   | none=>match fx st row with
     |some r=>r.own
     |none=>false)
 |_=>true
def AN(W:List Nat)(st:St)(op:Op):Bool:=
 match op with
 | .store _ a _=>match bJ st (.c true) a with
   |some l=>wW W st l
   |none=>true
 | .call {callee:=.builtin .append,args,..}=>match args.toList with
   | x::_=>match bJ st (.c true) x with
     |some l=>wW W st l
     |none=>true
   | []=>true
 |.call {callee:=.builtin .copy,..}=>false
 |.call {callee:=.builtin .clear,..}=>false
 |_=>true
def keeps(cH:St)(W:List Nat)(st:St):Bool:=
 cH.bl.all (fun b=>W.contains b.id||decide (gT st b.id=some b))&&cH.rows.all (fun r=>W.contains r.id||decide (bO st r.id=some r))
def nP(p:Nat->Bool):Sum IE BE->Bool
 |.inl e=>e.all p
 |.inr b=>b.all p
def cN.all(p:Nat->Bool):cN->Bool
 |.c x=>nP p x
 |.s k=>p k
 |.nil=>true
def ew.all(p:Nat->Bool):ew->Bool
 |.lit rows=>rows.all fun r=>r.all (nP p)
 |.app a b=>p a&&p b
 |.set a i _ x=>p a&&(i.all p&&nP p x)
 |.zK a i xs=>p a&&(i.all p&&xs.all (nP p))
 |.Em a i _ xs=>p a&&(i.all p&&xs.all (nP p))
 |.take a n=>p a&&n.all p
 |.rep n _=>n.all p
 |.cp a=>p a
 |.sub a i _ _=>p a&&i.all p
 |.UR a b=>p a&&p b
 |.Eu rows=>rows.all fun r=>r.all (cN.all p)
def DE.all(p:Nat->Bool):DE->Bool
 |.i e=>e.all p
 |.b e=>e.all p
 |.l k=>p k
 |.nil=>true
 |.rows es=>es.all (IE.all p)
 |.vP xs=>xs.all (nP p)
def fP(a b:Nat):Nat:=(a*1000003+b*8191+12345)%4294967291
def IE.key:IE->Nat
 |.v k=>fP 1 k
 |.c n=>fP 2 (if n<0 then 2*n.natAbs+1 else 2*n.natAbs)
 |.add a b=>fP 3 (fP a.key b.key)
 |.sub a b=>fP 4 (fP a.key b.key)
 |.mul a b=>fP 5 (fP a.key b.key)
 |.tdiv a b=>fP 6 (fP a.key b.key)
 |.tmod a b=>fP 7 (fP a.key b.key)
 |.ediv a n=>fP 8 (fP a.key n)
 |.emod a n=>fP 9 (fP a.key n)
 |.shl a b=>fP 10 (fP a.key b.key)
 |.shr a b=>fP 11 (fP a.key b.key)
 |.wrap _ a=>fP 12 a.key
 |.max a b=>fP 13 (fP a.key b.key)
 |.min a b=>fP 14 (fP a.key b.key)
 |.bits _ _ a b=>fP 15 (fP a.key b.key)
 |.len k=>fP 16 k
 |.get k i j=>fP 17 (fP (fP k j) i.key)
 |.ju i n a b=>fP 18 (fP (fP i.key n) (fP a.key b.key))
def BE.key:BE->Nat
 |.v k=>fP 21 k
 |.c x=>if x then 22 else 23
 |.lt a b=>fP 24 (fP a.key b.key)
 |.le a b=>fP 25 (fP a.key b.key)
 |.eq a b=>fP 26 (fP a.key b.key)
 |.not a=>fP 27 a.key
 |.and a b=>fP 28 (fP a.key b.key)
 |.or a b=>fP 29 (fP a.key b.key)
 |.iff a b=>fP 30 (fP a.key b.key)
 |.sM a=>fP 31 a.key
def outside(base n:Nat):Nat->Bool:=fun k=>decide (k<base)||decide (base+n<=k)
def other(id:Nat):Nat->Bool:=fun k=>decide (k≠id)
def indep(sig:FuncId->Option bX)(e e2:Ev):Bool:=
 match e2 with
 | .b8 id op=>(match e with
   |.call _ g args res base=>op.all (outside base (bP res).length)&&(outside base (bP res).length id&&(g.all (other id)&&args.all (DE.all (other id))))
   |.aH p=>p.all (other id)
   |.b8 uX Ui=>decide (id≠uX)&&(op.all (other uX)&&Ui.all (other id))
   |.dO p e=>p.all (other id)&&e.all (other id))
 | .aH q=>(match e with
   |.aH _=>true
   |.call _ _ _ res base=>q.all (outside base (bP res).length)
   |.dO _ _=>true
   |.b8 id _=>q.all (other id))
 | .call f' g' AO sG jg=>(match e with
   |.call f g args res base=>(decide (jg+(bP sG).length<=base)||decide (base+(bP res).length<=jg))&&(decide ((sig f').map (·.res)=some sG)&&(g'.all (outside base (bP res).length)&&(AO.all (DE.all (outside base (bP res).length))&&(g.all (outside jg (bP sG).length)&&args.all (DE.all (outside jg (bP sG).length))))))
   |.dO p e=>decide ((sig f').map (·.res)=some sG)&&(p.all (outside jg (bP sG).length)&&e.all (outside jg (bP sG).length))
   |_=>false)
 | .dO p' e'=>(match e with
   |.dO p e=>decide (e=e')
   |_=>false)
def Ev.Mg:Ev->Nat×Nat
 |.aH p=>(0,p.key)
 |.b8 id _=>(1,id)
 |.call _ _ _ _ b=>(2,b)
 |.dO p _=>(3,p.key)
def Za(a b:Nat×Nat):Bool:=decide (a.1<b.1)||(decide (a.1=b.1)&&decide (a.2<b.2))
def De(sig:FuncId->Option bX):List Ev->Nat->List Ev->Nat->Nat×Nat->Nat
 |_,_,[],b,_=>b
 |pre,i,e::es,b,r=>if Za e.Mg r&&pre.all (fun e1=>indep sig e1 e)then De sig (e::pre) (i+1) es i e.Mg else De sig (e::pre) (i+1) es b r
def Ka(sig:FuncId->Option bX):Nat->List Ev->List Ev
 |0,es=>es
 |_+1,[]=>[]
 | n+1,e::es=>match(e::es)[De sig [e] 1 es 0 e.Mg]? with
   |some x=>if((e::es).take (De sig [e] 1 es 0 e.Mg)).all (fun e1=>indep sig e1 x)then x::Ka sig n ((e::es).eraseIdx (De sig [e] 1 es 0 e.Mg))else e::es
   |none=>e::es
def AP(sig:FuncId->Option bX)(es:List Ev):List Ev:=Ka sig es.length es
abbrev vS:=List (Nat×Nat×St×(List Ev×St))
def GC(n m:Nat)(st:St):vS->Option (List Ev×St)
 | []=>none
 |(n',m',lh,r)::T=>if(Nat.beq m' m&&Nat.beq n' n)&&decide (lh=st)then some r else GC n m st T
def tb(m i:Nat):Bool:=Nat.beq (Nat.land (Nat.shiftRight m i) 1) 1
def rJ(m i:Nat):Nat:=Nat.lor m (Nat.pow 2 i)
def bitsOf(p:Nat->Bool):List Nat->Nat
 | []=>0
 |j::r=>bif p j then Nat.lor (Nat.pow 2 j) (bitsOf p r)else bitsOf p r
structure RO where
 i:Nat
 o:Oper
 dep:Nat
 bad:Nat
def EA(ops:Array Oper)(i:Nat)(o:Oper):RO:=⟨i,o,bitsOf (fun j=>o.after.toList.any fun e=>Region.binds .any e&&Nat.beq e.on j) (List.range ops.size),
 bitsOf (fun j=>!(Nat.beq j i) && !(match ops[j]? with
   |some oj=>oj.after.toList.any (fun e=>Region.binds .any e&&Nat.beq e.on i)||o.apart ops oj
   |none=>true)) (List.range ops.size)⟩
def lk(ops:Array Oper):List RO:=(List.range ops.size).filterMap fun i=>(ops[i]?).map (EA ops i)
def qm(ops:Array Oper):Bool:=ops.toList.all fun o=>o.after.toList.all fun e=>!Region.binds .any e||Nat.blt e.on ops.size
def RO.ready(m:Nat)(r:RO):Bool:=!tb m r.i&&Nat.beq (Nat.land r.dep m) r.dep
def RO.free(m:Nat)(r:RO):Bool:=Nat.beq (Nat.land r.bad m) r.bad
def vp(acc:List Nat)(es:List Edge):Nat:=es.foldl (fun m e=>if Region.binds .any e&&Nat.blt e.on acc.length then Nat.lor (rJ m e.on) (acc.getD e.on 0)else m) 0
def Mh(ops:List Oper):List Nat:=ops.foldl (fun acc o=>acc++[vp acc o.after.toList]) []
structure WQ where
 ws:List (Nat×Nat×Nat)
 al:Option (List Nat)
def WQ.wf(q:WQ)(m:Nat):List Nat:=match q.al with
 |some W=>W
 |none=>(q.ws.filter fun p=>tb m p.1).map fun p=>p.2.1
def WQ.wt(q:WQ)(i:Nat):List Nat:=match q.al with
 |some W=>W
 |none=>(q.ws.filter fun p=>!tb p.2.2 i).map fun p=>p.2.1
def WQ.ok(q:WQ)(i:Nat):Bool:=match q.al with
 |some _=>true
 |none=>q.ws.all fun p=>!Nat.beq p.1 i
def OL(ops:Array Oper)(W:List (Nat×Nat)):WQ:=⟨(W.filter fun p=>Nat.blt p.1 ops.size).map fun p=>(p.1,p.2,(Mh ops.toList).getD p.1 0),none⟩
def nQ(P:Program)(aR:lg)(ops:Array Oper)(cH:St)(q:WQ)(m:Nat)(st:St):List RO->Option (RO×List Ev×St)
 | []=>none
 |r::rs=>if r.free m&&q.ok r.i then(match guardOf ops st r.o with
     |none=>nQ P aR ops cH q m st rs
     | some G=>if wV P cH (q.wt r.i) st G r.o.op then(match YV P aR.hO st G r.o.op with
       | some (ns,sv)=>match st.Md r.o.dst ⟨G,sv⟩with
         |some bq=>some (r,sj G ns,bq)
         |none=>none
       |none=>nQ P aR ops cH q m st rs)else nQ P aR ops cH q m st rs)else nQ P aR ops cH q m st rs
def AQ(aR:lg)(Cb:Y')(cH:St)(wf:Nat->List Nat)(sd base:Nat)(st:St)(next:Nat->St->vS->Option ((List Ev×St)×vS))(r:RO)(T:vS):Option ((List Ev×St)×vS):=
 if AN (wf r.i) st r.o.op&&keeps cH (wf r.i) st then(match Cb st (base+r.i*sd) r.o with
   | some (dJ,bq)=>match next r.i bq T with
     |some ((zL,LP),T')=>some ((AP aR.sig (dJ++zL),LP),T')
     |none=>none
   |none=>none)else none
def GD(go:RO->vS->Option ((List Ev×St)×vS))(x:List Ev×St):List RO->vS->Option vS
 | [],T=>some T
 | i::is,T=>match go i T with
   |some (y,T')=>if y=x then GD go x is T' else none
   |none=>none
def explore(P:Program)(aR:lg)(Cb:Y')(ops:Array Oper)(lK:List RO)(fin:Option Nat)(cH:St)(q:WQ)(sd base:Nat):Nat->Nat->St->vS->Option ((List Ev×St)×vS)
 | 0,m,st,T=>match fin with
   | none=>(match lK.filter (RO.ready m)with
     | []=>some (([],st),T)
     |_::_=>none)
   |some l=>if Nat.beq m l then some (([],st),T)else none
 | n+1,m,st,T=>
   match lK.filter (RO.ready m)with
   | []=>(match fin with
     |none=>some (([],st),T)
     |some _=>none)
   | r::rs=>match nQ P aR ops cH q m st (r::rs)with
     | some (r',dJ,bq)=>match explore P aR Cb ops lK fin cH q sd base n (rJ m r'.i) bq T with
       |some ((zL,LP),T')=>some ((dJ++zL,LP),T')
       |none=>none
     | none=>match GC (n+1) m st T with
       |some x=>some (x,T)
       | none=>match AQ aR Cb cH (fun i=>q.wf (rJ m i)) sd base st (fun i bq T=>explore P aR Cb ops lK fin cH q sd base n (rJ m i) bq T) r T with
         | some (x,T')=>match GD (AQ aR Cb cH (fun i=>q.wf (rJ m i)) sd base st (fun i bq T=>explore P aR Cb ops lK fin cH q sd base n (rJ m i) bq T)) x rs T' with
           |some T''=>some (x,(n+1,m,st,x)::T'')
           |none=>none
         |none=>none
def noW(cH st:St):Op->Bool
 | .store _ a _=>match bJ st (.c true) a with
   |some (.p id _)=>!(cH.has id)&&(gT st id).isSome
   |_=>false
 |.call {callee:=.builtin .append,..}=>false
 |.call {callee:=.builtin .copy,..}=>false
 |.call {callee:=.builtin .clear,..}=>false
 |_=>true
def OM(Cr key:Nat)(st:St):Nat:=st.qh.foldl (fun m d=>if decide (key<=d.1)&&decide (d.1<Cr)then max m d.2 else m) key
abbrev tv:=St->Nat->Option Tmp->Spec->Option (List Ev×St)
def Kb(P:Program)(aR:lg)(rec:tv)(ops:Array Oper)(st:St)(key:Nat)(o:Oper):Option (List Ev×St):=
 match guardOf ops st o with
 | some (.c true)=>match yq aR st (.c true) o.op with
   |some sp=>rec st key o.dst sp
   |none=>tt P aR ops st key o
 |_=>tt P aR ops st key o
def UU(P:Program)(aR:lg)(rec:tv)(ops:Array Oper)(cH:St):Y':=fun st key o=>if noW cH st o.op then Kb P aR rec ops st key o else none
def AR(P:Program)(aR:lg)(rec:tv)(ops:Array Oper)(Cr:Nat)(cH:St):List Oper->Nat->St->Option (List Ev×St×Nat)
 | [],key,st=>some ([],st,key)
 | o::rest,key,st=>if noW cH st o.op then(match Kb P aR rec ops st key o with
   | some (dJ,lh)=>match AR P aR rec ops Cr cH rest (OM Cr key lh) lh with
     |some (zL,vT,uY)=>some (dJ++zL,vT,uY)
     |none=>none
   |none=>none)else none
def EB(P:Program)(aR:lg)(rec:tv)(Cr:Nat)(cH:St):Code->Nat->St->Option (List Ev×St×Nat)
 |.skip,key,st=>some ([],st,key)
 | .seq a b,key,st=>match EB P aR rec Cr cH a key st with
   | some (dJ,lh,Mi)=>match EB P aR rec Cr cH b Mi lh with
     |some (zL,vT,Cs)=>some (dJ++zL,vT,Cs)
     |none=>none
   |none=>none
 |.region _ ops false,key,st=>AR P aR rec ops Cr cH ops.toList key st
 | .region _ ops true,key,st=>if Region.noSelect ops&&P.follows .mixedOrders&&qm ops then(match written (UU P aR rec ops cH) J' key 0 ops.toList st with
   | some W=>match explore P aR (UU P aR rec ops cH) ops (lk ops) none st (OL ops W) J' key ops.size 0 st []with
     |some ((dJ,bq),_)=>some (dJ,bq,OM Cr key bq)
     |none=>none
   |none=>none)else none
 |_,_,_=>none
def uy(P:Program)(aR:lg)(rec:tv)(Cr:Nat)(cH:St):Code->Nat->St->Option (List Ev×St×Nat)
 | .seq a b,key,st=>match EB P aR rec Cr cH a key st with
   | some (dJ,lh,Mi)=>match uy P aR rec Cr cH b Mi lh with
     |some (zL,vT,Cs)=>some (dJ++zL,vT,Cs)
     |none=>none
   |none=>none
 |.ret,key,st=>some ([],st,key)
 |c,key,st=>EB P aR rec Cr cH c key st
def pH(P:Program)(aR:lg)(Cr:Nat):Nat->tv
 |0,_,_,_,_=>none
 |_+1,st,_,dst,.aH ok e=>if oM aR.eK st then some ([.dO ok e],st.put dst ⟨.c true,.H5 []⟩)else none
 | n+1,st,key,dst,.inl g vs=>match P.funcs[g]? with
   | some fn=>match fn.body with
     | some c=>if fn.name == "runtime.NumGoroutine" then none else match uy P aR (pH P aR Cr n) Cr st c key (rI fn vs st)with
       | some (dJ,bq,_)=>match tu P bq fn.results.toList with
         |some rv=>if ei bq.has rv then some (dJ,vR st bq dst (qK rv))else none
         |none=>none
       |none=>none
     |none=>none
   |none=>none
 |_+1,_,_,_,.Mf _ _=>none
 |_+1,st,_,dst,.val x=>some ([],st.put dst ⟨.c true,.v x⟩)
def mz(P:Program)(aR:lg)(ops:Array Oper)(st:St)(key:Nat)(o:Oper):Option (List Ev×St):=
 match guardOf ops st o with
 | some (.c true)=>match yq aR st (.c true) o.op with
   |some sp=>pH P aR (key+iB) 4 st key o.dst sp
   |none=>tt P aR ops st key o
 |_=>tt P aR ops st key o
def tw(n:Nat)(st:St):Nat:=st.qh.foldl (fun m d=>max m d.2) n
def uz(st:St)(r:List Ev×St):Option (List Ev×St):=
 if decide (r.2.next=st.next)then some (r.1,{r.2 with next:=tw st.next r.2,qh:=[] })else none
def wX(P:Program)(aR:lg)(ops:Array Oper)(st:St):Option (List Ev×St):=
 if Region.noSelect ops&&P.follows .mixedOrders&&qm ops then(match written (mz P aR ops) iB st.next 0 ops.toList st with
   | some W=>match explore P aR (mz P aR ops) ops (lk ops) none st (OL ops W) iB st.next ops.size 0 st []with
     |some (r,_)=>uz st r
     |none=>none
   |none=>none)else none
def Iy(st:St):List Nat:=st.bl.map (·.id)++(st.rows.map (·.id)++st.bp.map (·.id))
def qn(m n:Nat):List Bool:=List.replicate m true++List.replicate (n-m) false
def EC(lK:List RO)(m:Nat):Bool:=lK.all fun r=>!tb m r.i||Nat.beq (Nat.land r.dep m) r.dep
def z7(P:Program)(aR:lg)(ops:Array Oper)(cH:St)(W:List Nat)(lo:Nat)(hi:Option Nat)(st:St):Option (List Ev×St):=
 match hi with
 |some hi=>if EC (lk ops) (Nat.pow 2 lo-1)&&decide (hi<ops.size)&&decide (lo<=hi)&&decide (((lk ops).filter (RO.ready (Nat.pow 2 hi-1))).map RO.i=[hi])then(match explore P aR (mz P aR ops) ops (lk ops) (some (Nat.pow 2 hi-1)) cH ⟨[],some W⟩ iB st.next (hi-lo) (Nat.pow 2 lo-1) st []with
     |some (r,_)=>uz st r
     |none=>none)else none
 |none=>if EC (lk ops) (Nat.pow 2 lo-1)&&decide (lo<=ops.size)then(match explore P aR (mz P aR ops) ops (lk ops) none cH ⟨[],some W⟩ iB st.next (ops.size-lo) (Nat.pow 2 lo-1) st []with
     |some (r,_)=>uz st r
     |none=>none)else none
def Iz(cH:St)(W:List Nat)(st:St):Bool:=
 cH.bl.all (fun b=>W.contains b.id||decide (gT st b.id=some b))&&cH.rows.all (fun r=>W.contains r.id)
def qL(aR:lg)(st:St):St:=UT {st with bl:=mV ⟨st.next,aR.ql,[.i .i64 (.c 0)]⟩ st.bl}
def gm(aR:lg)(st:St):St:={qL aR st with bl:=(qL aR st).bl.filter fun b=>!aR.GA.contains b.id}
def mI(st:St)(id:Nat)(e:IE):St:={st with bl:=st.bl.map fun b=>if b.id=id then {b with cells:=[.i .i64 e] }else b}
def vU:List Ev->aA->aA
 | [],t=>t
 |.dO p e::es,t=>.ite p (vU es t) (.fail e)
 |e::es,t=>.ev e (vU es t)
abbrev Ex:=Option St->FuncId->List V1->St->(List V1->St->aA)->aA
def Kc(aR:lg)(h:Option St)(ex:Ex)(st:St)(dst:Option Tmp)(rest:St->aA):Spec->aA
 |.inl g vs=>ex h g vs st fun rv bq=>rest (vR st bq dst (qK rv))
 |.aH ok e=>.ite ok (rest (st.put dst ⟨.c true,.H5 []⟩)) (XA h st e)
 |.val x=>rest (st.put dst ⟨.c true,.v x⟩)
 |.Mf g vs=>if aR.GA.contains st.next then .stuck "drops" else .gA (st.next+1) (rest (vR st (mI (gm aR st) st.next (.v (st.next+1))) dst (.v (.one (.i .i64 (.v (st.next+1)))))))
     (ex (some (gm aR st)) g vs (qL aR st) fun rv bq=>if decide (rv=[])&&decide (gT bq st.next=some ⟨st.next,aR.ql,[.i .i64 (.c 0)]⟩)then .pop (rest (vR st bq dst (.v (.one (.i .i64 (.c 0))))))else .stuck "try")
def ll(P:Program)(aR:lg)(h:Option St)(ops:Array Oper)(ex:Ex):List Oper->St->(St->aA)->aA
 | [],st,k=>k st
 | o::rest,st,k=>match guardOf ops st o with
   |none=>.stuck ("guard " ++ o.pos)
   | some G=>match yq aR st G o.op with
     | none=>(match tt P aR ops st st.next o with
       | some r=>match uz st r with
         |some (dJ,bq)=>vU dJ (ll P aR h ops ex rest bq k)
         |none=>.stuck "names"
       |none=>.stuck ("operation " ++ o.pos ++ " slot " ++ toString (o.dst.getD 0)))
     | some sp=>
       match G with
       |.c true=>Kc aR h ex st o.dst (fun bq=>ll P aR h ops ex rest bq k) sp
       |.c false=>ll P aR h ops ex rest (st.put o.dst kT) k
       |G=>.ite G (Kc aR h ex st o.dst (fun bq=>ll P aR h ops ex rest bq k) sp) (ll P aR h ops ex rest ((st.know G false).put o.dst kT) k)
def ON(P:Program)(aR:lg)(ops:Array Oper)(base:Nat):Nat->List Oper->St->String
 |_,[],_=> "all"
 | i,o::rest,st=>match mz P aR ops st (base+i*iB) o with
   |some (_,bq)=>ON P aR ops base (i+1) rest bq
   |none=> "op " ++ toString i ++ " " ++ o.pos
def AS(aR:lg)(Cb:Y')(ops:Array Oper)(last:Bool)(base:Nat):Nat->Array Bool->St->Option (List Ev×St)
 |0,_,st=>some ([],st)
 | n+1,listed,st=>match(if last then(Region.ready .any ops listed).reverse else Region.ready .any ops listed)with
   | []=>some ([],st)
   | i::_=>match ops[i]? with
     |none=>none
     | some o=>match Cb st (base+i*iB) o with
       | some (dJ,bq)=>match AS aR Cb ops last base n (listed.setIfInBounds i true) bq with
         |some (zL,LP)=>some (AP aR.sig (dJ++zL),LP)
         |none=>none
       |none=>none
def agf(P:Program)(aR:lg)(ops:Array Oper)(st:St):String:=
 match AS aR (mz P aR ops) ops false st.next ops.size (Array.replicate ops.size false) st,AS aR (mz P aR ops) ops true st.next ops.size (Array.replicate ops.size false) st with
 |some x,some y=>if x=y then "same" else "evs " ++ toString (decide (x.1=y.1)) ++ " tmps " ++ toString (decide (x.2.tmps=y.2.tmps)) ++ " blks " ++ toString (decide (x.2.bl=y.2.bl)) ++ " rows " ++ toString (decide (x.2.rows=y.2.rows)) ++ " dom " ++ toString (decide (x.2.qh=y.2.qh))++(reprStr x.1).replace "Go.Sx." "" ++ " ---- " ++ (reprStr y.1).replace "Go.Sx." ""
 |some _,none=> "none 2" |none,_=> "none 1"
def wY(P:Program)(aR:lg)(h:Option St)(ops:Array Oper)(ex:Ex)(cH:St)(W:List Nat):List Nat->Nat->St->(St->aA)->aA
 | [],lo,st,k=>match z7 P {aR with eK:=h} ops cH W lo none st with
   |some (dJ,bq)=>vU dJ (k bq)
   |none=>.stuck ("region, end " ++ toString lo ++ " " ++ ((ops[0]?).map (·.pos)).getD "")
 | p::ps,lo,st,k=>match z7 P {aR with eK:=h} ops cH W lo (some p) st with
   | some (dJ,bq)=>vU dJ (match ops[p]? with
     |some o=>ll P aR h ops ex [o] bq fun vT=>if Iz cH W vT then wY P aR h ops ex cH W ps (p+1) vT k else .stuck "region, kept"
     |none=>.stuck "tail")
   |none=>.stuck ("region, up to " ++ toString p ++ " " ++ ((ops[0]?).map (·.pos)).getD "" ++ " ready " ++ toString (Region.ready .any ops (qn p ops.size).toArray) ++ " blocks" ++ String.join (st.bl.map fun b=> " " ++ toString b.id ++ ":T" ++ toString b.ty) ++ " " ++ ON P {aR with eK:=h} ops st.next lo ((ops.toList.drop lo).take (p-lo)) st)
def ix:Code->Option Nat
 |.region id _ _=>some id
 | .seq a b=>match ix a with
   |some i=>some i
   |none=>ix b
 | .cond _ a b=>match ix a with
   |some i=>some i
   |none=>ix b
 |.block _ a=>ix a
 |.loop a=>ix a
 |.scope a=>ix a
 |_=>none
def GF:Code->List Nat
 |.region _ ops _=>ops.toList.filterMap (·.dst)
 |.seq a b=>GF a++GF b
 |.cond _ a b=>GF a++GF b
 |.block _ a=>GF a
 |.loop a=>GF a
 |.scope a=>GF a
 |_=>[]
structure Head where
 st:St
 entry:List DE
 ks:List CT
def iH(ds:List Nat)(hr:List (Nat×TypeId×List CK))(hn:List (Nat×TypeId×List NK)):Nat->Nat->List (Option bc)->List Row->List eO->Option (List (Option bc)×List Row×List eO×List DE×List CT×Nat)
 |_,id,[],rs,ns=>some ([],rs,ns,[],[],id)
 | t,id,s::rest,rs,ns=>match hr.find? (fun h=>h.1==t)with
   | some (_,e,ks)=>match s with
     | some ⟨.c true,.v (.one .lM)⟩=>if 0<ks.length then(match iH ds hr hn (t+1) (id+1) rest rs ns with
       |some (ss,fw,ru,es,cs,n)=>some (some ⟨.c true,.v (.one (.s id))⟩::ss,dN ⟨id,e,ks,id,true,.c true⟩ fw,ru,.nil::es,.s e ks::cs,n)
       |none=>none)else none
     | some ⟨.c true,.v (.one (.s r))⟩=>match rs.find? (fun x=>x.id==r)with
       |some x=>if x.own&&decide (x.g = .c true)&&decide (x.e=e)&&decide (x.ks=ks)then
           (match iH ds hr hn (t+1) (id+1) rest (rs.filter fun y=>y.id≠r) ns with
           |some (ss,fw,ru,es,cs,n)=>some (some ⟨.c true,.v (.one (.s id))⟩::ss,dN ⟨id,e,ks,id,true,.c true⟩ fw,ru,.l x.lv::es,.s e ks::cs,n)
           |none=>none)else none
       |none=>none
     |_=>none
   |none=>match hn.find? (fun h=>h.1==t)with
   | some (_,e,aU)=>match s with
     | some ⟨.c true,.v (.one .lM)⟩=>if 0<aU.length then(match iH ds hr hn (t+1) (id+1) rest rs ns with
       |some (ss,fw,ru,es,cs,n)=>some (some ⟨.c true,.v (.one (.s id))⟩::ss,fw,vO ⟨id,e,aU,id,.c true,true⟩ ru,.nil::es,.n e aU::cs,n)
       |none=>none)else none
     | some ⟨.c true,.v (.one (.s r))⟩=>match ns.find? (fun x=>x.id==r)with
       |some x=>if x.own&&decide (x.e=e)&&decide (x.aU=aU)then
           (match iH ds hr hn (t+1) (id+1) rest rs (ns.filter fun y=>y.id≠r)with
           |some (ss,fw,ru,es,cs,n)=>some (some ⟨.c true,.v (.one (.s id))⟩::ss,fw,vO ⟨id,e,aU,id,.c true,true⟩ ru,.l x.lv::es,.n e aU::cs,n)
           |none=>none)else none
       |none=>none
     |_=>none
   |none=>if ds.contains t then
       (match s with
       | some ⟨.c true,.v (.one (.i k e))⟩=>match iH ds hr hn (t+1) (id+1) rest rs ns with
         |some (ss,fw,ru,es,cs,n)=>some (some ⟨.c true,.v (.one (.i k (.v id)))⟩::ss,fw,ru,.i e::es,.c (.i k)::cs,n)
         |none=>none
       | some ⟨.c true,.v (.one (.b e))⟩=>match iH ds hr hn (t+1) (id+1) rest rs ns with
         |some (ss,fw,ru,es,cs,n)=>some (some ⟨.c true,.v (.one (.b (.v id)))⟩::ss,fw,ru,.b e::es,.c .b::cs,n)
         |none=>none
       | _=>match iH ds hr hn (t+1) id rest rs ns with
         |some (ss,fw,ru,es,cs,n)=>some (none::ss,fw,ru,es,cs,n)
         |none=>none)
     else match iH ds hr hn (t+1) id rest rs ns with
       |some (ss,fw,ru,es,cs,n)=>some (s::ss,fw,ru,es,cs,n)
       |none=>none
def eY(fT:List Nat)(base:Nat):Nat->List Row->List Row×List DE×List CT
 |_,[]=>([],[],[])
 |id,r::rs=>if fT.contains r.id&&decide (r.id<base)&&r.own&&decide (r.g = .c true)then
     ({r with lv:=id}::(eY fT base (id+1) rs).1,.l r.lv::(eY fT base (id+1) rs).2.1,.s r.e r.ks::(eY fT base (id+1) rs).2.2)
   else(r::(eY fT base id rs).1,(eY fT base id rs).2.1,(eY fT base id rs).2.2)
def rK(l:ak):Option bc:=some ⟨.c true,.v (.one l)⟩
def fm:List iX->List (Option bc)
 | []=>[]
 |b::bs=>b.cells.map rK++fm bs
def IA:Option bc->Option ak
 |some ⟨.c true,.v (.one l)⟩=>some l
 |_=>none
def oN:List (Option bc)->Option (List ak)
 | []=>some []
 | s::ss=>match IA s,oN ss with
   |some l,some ls=>some (l::ls)
   |_,_=>none
def AT:List iX->List (Option bc)->Option (List iX)
 | [],_=>some []
 | b::bs,ss=>match oN (ss.take b.cells.length),AT bs (ss.drop b.cells.length)with
   |some cs,some XB=>some ({b with cells:=cs}::XB)
   |_,_=>none
def Df(hs:List (Nat×Nat))(cr:List (Nat×Nat×TypeId×List CK))(st:St):Nat->List iX->List Nat×List (Nat×TypeId×List CK)×List (Nat×TypeId×List NK)
 |_,[]=>([],[],[])
 | t,b::bs=>
   let js:=(List.range b.cells.length).filter fun j=>hs.contains (b.id,j)
   let r:=Df hs cr st (t+b.cells.length) bs
   (js.map (t + ·)++r.1,(js.filterMap fun j=>match b.cells[j]? with
     |some (ak.s q)=>(bO st q).map fun x=>(t+j,x.e,x.ks)
     |some ak.lM=>(cr.find? fun x=>x.1==b.id&&x.2.1==j).map fun x=>(t+j,x.2.2.1,x.2.2.2)
     |_=>none)++r.2.1,(js.filterMap fun j=>match b.cells[j]? with
     | some (ak.s q)=>match bO st q with
       |some _=>none
       |none=>(fx st q).map fun x=>(t+j,x.e,x.aU)
     |_=>none)++r.2.2)
def IB(c:Code)(h:Hint)(st:St):Option Head:=
 let r:=Df h.cells h.acG st st.tmps.length st.bl
 match iH (GF c++r.1) (h.rows++r.2.1) (h.bp++r.2.2) 0 st.next (st.tmps++fm st.bl) st.rows st.bp with
 |none=>none
 | some (ss,rs,ns,es,ks,n)=>match AT st.bl (ss.drop st.tmps.length)with
   |some bs=>some {st:={tmps:=ss.take st.tmps.length,bl:=bs,rows:=(eY h.fT st.next n rs).1,bp:=ns,next:=n+(eY h.fT st.next n rs).2.1.length,qh:=[] },entry:=es++(eY h.fT st.next n rs).2.1,ks:=ks++(eY h.fT st.next n rs).2.2}
   |none=>none
def nodupB:List Nat->Bool
 | []=>true
 |x::xs=>!xs.contains x&&nodupB xs
def AU(base id:Nat)(h l:ak):Option (List (DE×Option Nat)):=
 if h=l/\h.all (fun k=>decide (k<base))=true then some []else
 match h,l with
 |.i k (.v j),.i k' e=>if j=id/\k=k' then some [(.i e,none)]else none
 |.b (.v j),.b e=>if j=id then some [(.b e,none)]else none
 |_,_=>none
def AV(base:Nat)(st:St)(id:Nat)(h s:Option bc):Option (List (DE×Option Nat)):=
 match h with
 |none=>some []
 | some h=>if s=some h/\h.all (fun k=>decide (k<base))=true then some []else
   match h,s with
   | ⟨.c true,.v (.one (.s j))⟩,some ⟨.c true,.v (.one (.s r))⟩=>if j=id then(match bO st r with
     |some y=>some [(.l y.lv,some r)]
     | none=>match fx st r with
       |some y=>some [(.l y.lv,some r)]
       |none=>none)else none
   |⟨.c true,.v (.one (.s j))⟩,some ⟨.c true,.v (.one .lM)⟩=>if j=id then some [(.nil,none)]else none
   |⟨.c true,.v (.one a)⟩,some ⟨.c true,.v (.one b)⟩=>AU base id a b
   |_,_=>none
def qM(base:Nat)(st:St):Nat->List (Option bc)->List (Option bc)->Option (List (DE×Option Nat))
 |_,[],[]=>some []
 | id,h::hs,s::ss=>match AV base st id h s with
   | some d=>match qM base st (id+d.length) hs ss with
     |some ds=>some (d++ds)
     |none=>none
   |none=>none
 |_,_,_=>none
def sameShape(base:Nat)(st:St):List iX->Option (List iX)
 | []=>some []
 | h::hs=>match gT st h.id,sameShape base st hs with
   |some b,some bs=>if b.ty=h.ty/\h.id<base/\b.cells.length=h.cells.length then some (b::bs)else none
   |_,_=>none
def Kd(base:Nat)(st:St)(L:List (DE×Option Nat))(x:Row):Bool:=
 if x.id<base then(if x.lv<base then decide (bO st x.id=some x)&&x.all (fun k=>decide (k<base))
   else x.own&&decide (x.g = .c true)&&(match L[x.lv-base]?,bO st x.id with
     |some (.l lv,none),some y=>y.own&&decide (y.g = .c true)&&decide (y.e=x.e)&&decide (y.ks=x.ks)&&decide (y.lv=lv)
     |_,_=>false))
 else decide (x.lv=x.id)&&x.own&&decide (x.g = .c true)&&(match L[x.id-base]? with
   | some (.l lv,some r)=>(match bO st r with
     |some y=>y.own&&decide (y.g = .c true)&&decide (y.e=x.e)&&decide (y.ks=x.ks)&&decide (y.lv=lv)
     |none=>false)
   |some (.nil,none)=>decide (0<x.ks.length)
   |_=>false)
def AW(base:Nat)(st:St)(L:List (DE×Option Nat))(x:eO):Bool:=
 if x.id<base then decide (fx st x.id=some x)&&x.all (fun k=>decide (k<base))
 else decide (x.lv=x.id)&&x.own&&decide (x.g = .c true)&&(match L[x.id-base]? with
   | some (.l lv,some r)=>(match bO st r,fx st r with
     |none,some y=>y.own&&decide (y.e=x.e)&&decide (y.aU=x.aU)&&decide (y.lv=lv)
     |_,_=>false)
   |some (.nil,none)=>decide (0<x.aU.length)
   |_=>false)
def tz:CT->DE->Bool
 |.c (.i _),.i _=>true
 |.c .b,.b _=>true
 |.c .f,.i _=>true
 |.s _ _,.l _=>true
 |.s _ _,.nil=>true
 |.n _ _,.l _=>true
 |.n _ _,.nil=>true
 |_,_=>false
def uA:List CT->List DE->Bool
 | [],[]=>true
 |c::cs,d::ds=>tz c d&&uA cs ds
 |_,_=>false
def origins(L:List (DE×Option Nat)):List Nat:=L.filterMap (·.2)
def OO(base:Nat)(st:St):Nat->List Row->Option (List (DE×Option Nat))
 |_,[]=>some []
 |id,x::xs=>if x.id<base/\base<=x.lv then(if x.lv=id then(match bO st x.id,OO base st (id+1) xs with
     |some y,some L=>some ((.l y.lv,none)::L)
     |_,_=>none)else none)else OO base st id xs
def back(base:Nat)(ks:List CT)(h st:St):Option (List DE):=
 match sameShape base st h.bl with
 | some bs=>match qM base st base (h.tmps++fm h.bl) (st.tmps++fm bs)with
   | some L1=>match OO base st (base+L1.length) h.rows with
     | some L2=>if decide (h.tmps.length=st.tmps.length)&&(h.rows.all (Kd base st (L1++L2))&&nodupB (origins (L1++L2))&&(origins (L1++L2)).all (fun r=>!(h.rows.any fun x=>decide (x.id<base)&&x.id==r) && !(h.bp.any fun x=>decide (x.id<base)&&x.id==r))&&uA ks ((L1++L2).map (·.1)))&&h.bp.all (AW base st (L1++L2))
       then some ((L1++L2).map (·.1))else none
     |none=>none
   |none=>none
 |none=>none
inductive K where
 |code (c:Code)
 |oo (id:Nat)
 |loop (c:Code)
 |zS (c:Code) (id base:Nat) (head:St) (ks:List CT)
def wZ(id:Nat):List K->Option (List K)
 | []=>none
 |.oo uX::k=>if uX=id then some k else wZ id k
 |_::k=>wZ id k
def xb(id:Nat):List K->Bool
 | []=>false
 |.zS _ uX _ _ _::k=>uX==id||xb id k
 |_::k=>xb id k
def rowsOf:List V1->List Nat
 | []=>[]
 |v::vs=>(v.leaves.filterMap fun| .s r=>some r|_=>none)++rowsOf vs
def rL(res:List VT)(vs:List V1)(st:St):aA:=
 match res,vs with
 | [.ptr e ks],[.one (.p id 0)]=>(match gT st id with
   | some b=>if decide (b.ty=e)&&decide (0<ks.length)then(match fi ks b.cells with
     |some xs=>.ret [.vP xs]
     |none=>.stuck "ret. cells")else .stuck "ret. block"
   |none=>.stuck "ret. no block")
 | res,vs=>match oL st (.c true) res vs with
   |some ds=>if iY res&&nodupB (rowsOf vs)&&(rowsOf vs).all (fun r=>match bO st r with|some x=>x.own&&decide (x.g = .c true)|none=>false)
       then .ret ds else if fB res&&(bP res).any CT.xI&&rH (bP res)&&(rowsOf vs).all (fun r=>match bO st r,fx st r with|none,some x=>x.own|_,_=>false)
       then .ret ds else .stuck "ret. a row that is not own"
   |none=>.stuck "ret. types"
def oO(sg:bX)(vs:List V1)(st:St):aA:=
 match oL st (.c true) sg.res vs with
 |some ds=>if iY sg.res&&yp (dc (bL vs))&&(dc (bL vs)).all (fun r=>match bO st r with
     |some x=>decide (x.g = .c true)&&(x.own||(decide (x.id<sg.cons)&&decide (x.lv=x.id)&&decide ((bP sg.args)[x.id]?=some (.s x.e x.ks))))
     |none=>false)
     then .ret ds else .stuck "ret. a row that is neither own nor handed over"
 |none=>.stuck "ret. types"
def UW(P:Program)(fn:Func)(st:St)(kr:List V1->St->aA):aA:=
 match tu P st fn.results.toList with
 |some vs=>if ei st.has vs then kr vs st else .stuck "ret. names"
 |none=>.stuck "ret. a result"
def ak.fix(k:Nat)(v:Int):ak->ak
 |.i kd (.v j)=>if j=k then .i kd (.c v)else .i kd (.v j)
 |l=>l
def V1.fix(k:Nat)(v:Int):V1->V1
 |.one l=>.one (l.fix k v)
 |.agg ls=>.agg (ls.map (ak.fix k v))
def SV.fix(k:Nat)(v:Int):SV->SV
 |.v x=>.v (x.fix k v)
 |.H5 xs=>.H5 (xs.map (V1.fix k v))
def St.fix(st:St)(k:Nat)(v:Int):St:=
 {st with tmps:=st.tmps.map (fun s=>s.map fun s=>{s with sv:=s.sv.fix k v}),bl:=st.bl.map fun b=>{b with cells:=b.cells.map (ak.fix k v) } }
def OP(no:List (Nat×Int)):BE->Bool
 |.eq (.v k) (.c n)=>no.contains (k,n)
 |_=>false
def vV(k:Nat)(f:Int->aA)(d:aA):List Nat->aA
 | []=>d
 |v::vs=>.ite (.eq (.v k) (.c (v:Int))) (f (v:Int)) (vV k f d vs)
def IC(k:Nat)(f:Int->aA):List Nat->aA
 | []=>.stuck "split"
 |v::vs=>.ite (.eq (.v k) (.c (v:Int))) (f (v:Int)) (IC k f vs)
def ED(go:St->aA):List (Nat×Nat×Nat)->St->aA
 | [],st=>go st
 |(_,x,m)::ps,st=>IC x (fun v=>ED go ps (st.fix x v)) (List.range m)
def gid(f:FuncId)(i:Nat):Nat:=f*1000+i
def oP:List K->List Nat
 | []=>[]
 |.zS _ id _ _ _::k=>id::oP k
 |_::k=>oP k
def EE(P:Program)(aR:lg)(h:Option St)(ops:Array Oper)(draw:Bool)(tail:Option (List Nat×List Nat))(ex:Ex)(st:St)(k:St->aA):aA:=
 if draw then(match tail with
   |some (ps,kb)=>if Region.noSelect ops&&P.follows .mixedOrders&&qm ops then wY P aR h ops ex st ((Iy st).filter fun i=>!kb.contains i) ps 0 st k else .stuck "region, select"
   | none=>(match wX P {aR with eK:=h} ops st with
     |some (dJ,bq)=>vU dJ (k bq)
     |none=>.stuck ("region " ++ ((ops[0]?).map (·.pos)).getD "" ++ " " ++ agf P {aR with eK:=h} ops st ++ " " ++ ON P {aR with eK:=h} ops st.next 0 ops.toList st)))
 else ll P aR h ops ex ops.toList st k
def UX(P:Program)(run:Option St->FuncId->Func->Code->St->(List V1->St->aA)->aA):Ex:=fun h g vs st kr=>match P.funcs[g]? with
 | some fn=>(match fn.body with
   |some c=>if fn.name == "runtime.NumGoroutine" then .stuck "NumGoroutine" else run h g fn c (rI fn vs st) kr
   |none=>.stuck "no body")
 |none=>.stuck "no function"
def OQ(base:Nat)(h st:St):String:=
 "again; cells:" ++ String.join (h.bl.map fun b=>match gT st b.id with
   | some c=>String.join ((List.range b.cells.length).filterMap fun j=>match b.cells[j]?,c.cells[j]? with
     |some x,some y=>if x=y||(match x with| .i _ (.v k)=>decide (base<=k)| .b (.v k)=>decide (base<=k)| .s k=>decide (base<=k)|_=>false)then none else some (" " ++ toString b.id ++ ":" ++ toString j)
     |_,_=>none)
   | none=> " no " ++ toString b.id) ++ "; slots:" ++ String.join ((List.range h.tmps.length).filterMap fun t=>match h.tmps[t]?,st.tmps[t]? with
     |some (some x),some y=>if some x=y then none else some (" " ++ toString t)
     |_,_=>none) ++ "; rows:" ++ String.join (h.rows.filterMap fun r=>if bO st r.id=some r||decide (base<=r.id)then none else some (" " ++ toString r.id))
def exec(P:Program)(aR:lg):Nat->Option St->List Nat->FuncId->Func->List K->St->(List V1->St->aA)->aA
 |0,_,_,_,_,_,_,_=>.stuck "fuel"
 |_+1,_,_,_,fn,[],st,kr=>UW P fn st kr
 |n+1,h,L,f,fn,.oo _::k,st,kr=>exec P aR n h L f fn k st kr
 |n+1,h,L,f,fn,.loop c::k,st,kr=>exec P aR n h L f fn (.code c :: .loop c::k) st kr
 | _+1,_,_,_,_,.zS _ id base hd ks::_,st,_=>match back base ks hd st with
   |some bM=>.again id bM
   |none=>.stuck (toString id ++ " " ++ OQ base hd st)
 | n+1,h,L,f,fn,.code c::k,st,kr=>match c with
   |.skip=>exec P aR n h L f fn k st kr
   |.label _=>exec P aR n h L f fn k st kr
   |.seq a b=>exec P aR n h L f fn (.code a :: .code b::k) st kr
   | .cond x a b=>match bJ st (.c true) x with
     |some (.b (.c true))=>exec P aR n h L f fn (.code a::k) st kr
     |some (.b (.c false))=>exec P aR n h L f fn (.code b::k) st kr
     |some (.b p)=>if OP aR.no p then exec P aR n h L f fn (.code b::k) st kr else .ite p (exec P aR n h L f fn (.code a::k) st kr) (exec P aR n h L f fn (.code b::k) st kr)
     |_=>.stuck "cond"
   |.block id c=>exec P aR n h L f fn (.code c :: .oo id::k) st kr
   | .loop c=>match(ix c).bind (fun i=>(aR.loops.find? (fun p=>p.1==gid f i)).map fun p=>(gid f i,p.2))with
     |none=>exec P aR n h L f fn (.code c :: .loop c::k) st kr
     | some (i,hn)=>match IB c hn st with
       |some hd=>if xb i k||L.contains i then .stuck "loop in itself" else .loop i hd.entry hd.ks st.next (exec P aR n h L f fn (.code c :: .zS c i st.next hd.st hd.ks::k) hd.st kr)
       |none=>.stuck "loop head"
   | .exit id=>match wZ id k with
     |some k'=>exec P aR n h L f fn k' st kr
     |none=>.stuck "exit"
   |.ret=>UW P fn st kr
   | .region id ops draw=>
     let ex:Ex:=UX P (fun h' g NZ c bq kr'=>exec P aR n h' (L++oP k) g NZ [.code c] bq kr')
     let go:St->aA:=fun st=>EE P aR h ops draw ((aR.Xy.find? fun p=>p.1==gid f id).map (·.2)) ex st (fun bq=>exec P aR n h L f fn k bq kr)
     ED go (aR.splits.filter fun p=>p.1==gid f id) st
   |_=>.stuck "code"
def mJ(args:List VT):List V1×List Row:=
 let(vs,rows):=cq (.c true) 0 args
 (vs,rows.map fun r=>{r with own:=false})
def start(fn:Func)(args:List VT):St:=
 let(vs,rows):=mJ args
 {tmps:=vs.map (fun v=>some ⟨.c true,.v v⟩)++List.replicate (fn.ntmps-vs.length) none,bl:=[],rows,bp:=eR false (.c true) 0 (bP args),next:=(bP args).length,qh:=[] }
def tA(P:Program)(aR:lg)(f:FuncId)(fn:Func)(sg:bX)(fuel:Nat):aA:=
 match fn.body with
 | some c=>
   let ret:=if sg.cons=0 then rL sg.res else oO sg
   match aR.AM with
   |none=>exec P aR fuel none [] f fn [.code c] (start fn sg.args) ret
   |some (x,m)=>if decide (x<(start fn sg.args).next)then vV x (fun v=>exec P aR fuel none [] f fn [.code c] ((start fn sg.args).fix x v) ret)
       (exec P {aR with no:=(List.range m).map fun(v:Nat)=>(x,(v:Int)) } fuel none [] f fn [.code c] (start fn sg.args) ret) (List.range m)else .stuck "split"
 |none=>.stuck "no body"
def fe(ks:List BE):BE->Bool
 |.and a b=>ks.contains (.and a b)||(fe ks a&&fe ks b)
 |.or a b=>ks.contains (.or a b)||(fe ks a||fe ks b)
 |.c true=>true
 |p=>ks.contains p
def tB(ks:List BE):BE->BE
 |.or (.not g) n=>if fe ks g then n else .or (.not g) n
 |p=>p
def jh(p:BE)(ks:List BE):List BE:=
 match p with
 |.and a b=>.and a b::jh a (jh b ks)
 |p=>p::ks
def prune(ks:List BE):aA->aA
 |.ret vs=>.ret vs
 |.stuck _=>.stuck ""
 |.ev (.aH p) t=>if fe ks (tB ks p)then prune ks t else .ev (.aH (tB ks p)) (prune (jh (tB ks p) ks) t)
 |.ev e t=>.ev e (prune [] t)
 |.ite c a b=>.ite c (prune (jh c ks) a) (prune ((BE.not c).mk::ks) b)
 |.loop id es kd base body=>.loop id es kd base (prune [] body)
 |.again id vs=>.again id vs
 |.fail e=>.fail e
 |.gA x tp t=>.gA x (prune [] tp) (prune ks t)
 |.pop t=>.pop (prune ks t)
def tC(l:List (FuncId×bX)):FuncId->Option bX:=fun f=>(l.find? fun p=>p.1==f).map (·.2)
theorem IE.cL(ae:aF)(e:IE):e.mk.af ae=e.af ae:=by
 unfold IE.mk;split<;>simp[IE.af];split<;>simp_all
theorem BE.cL(ae:aF)(e:BE):e.mk.af ae=e.af ae:=by
 unfold BE.mk;split<;>simp only[BE.af,IE.af,Bool.not_not,Bool.true_and,Bool.false_and,Bool.and_true,Bool.or_false,Bool.false_or,Bool.true_or]
 all_goals first|rfl|(generalize BE.af ae _=y;cases y<;>rfl)
theorem BE.df{ae:aF}{g:BE}(h:G.jt g=true)(hG:G.af ae=true):g.af ae=true:=by
 induction G with
 | and x y NS Oc=>
   unfold BE.jt at h;simp only[BE.af,ao]at hG;simp only[hZ,aO]at h;rcases h with(rfl|rfl)|(h|h);rfl;simp[BE.af,hG];exact NS h hG.1;exact Oc h hG.2
 | _=>
   unfold BE.jt at h;simp only[hZ,aO]at h;rcases h with(rfl|rfl)|h;rfl;exact hG;cases h
theorem BE.CS{ae:aF}{n:BE}(hG:G.af ae=true)(h:(BE.under G n).af ae=true):n.af ae=true:=by
 unfold BE.under at h;split at h;exact h;simpa[BE.af,hG]using h
theorem UB{ae:aF}{k:IntKind}{e:IE}(h:(Xt k e).af ae=true):k.min<=e.af ae/\e.af ae<=k.max:=by
 unfold Xt at h;split at h
 all_goals
   simp only[BE.af,IE.af,ao,aO]at h ⊢
   first|exact h|exact⟨jY h.1,jY h.2⟩
theorem IE.av{p:Nat->Bool}{ae aq:aF}(h:∀k,p k=true->ae k=aq k):∀ {e:IE},e.all p=true->e.af ae=e.af aq:=by
 intro e;induction e with
 |v k=>intro ha;simp only[IE.all]at ha;simp[IE.af,h k ha]
 |c n=>intro _;rfl
 |len k=>intro ha;simp only[IE.all]at ha;simp[IE.af,h k ha]
 |get k i j ih=>intro ha;simp only[IE.all,ao]at ha;simp[IE.af,h k ha.1,ih ha.2]
 |ju i n a b uS uT YP=>intro ha;simp only[IE.all,ao]at ha;simp[IE.af,uS ha.1,uT ha.2.1,YP ha.2.2]
 |ediv a n ih=>intro ha;simp only[IE.all]at ha;simp[IE.af,ih ha]
 |emod a n ih=>intro ha;simp only[IE.all]at ha;simp[IE.af,ih ha]
 |wrap k a ih=>intro ha;simp only[IE.all]at ha;simp[IE.af,ih ha]
 |bits op k a b uS uT=>intro ha;simp only[IE.all,ao]at ha;simp[IE.af,uS ha.1,uT ha.2]
 |_ a b uS uT=>intro ha;simp only[IE.all,ao]at ha;simp[IE.af,uS ha.1,uT ha.2]
theorem BE.av{p:Nat->Bool}{ae aq:aF}(h:∀k,p k=true->ae k=aq k):∀ {e:BE},e.all p=true->e.af ae=e.af aq:=by
 intro e;induction e with
 |v k=>intro ha;simp only[BE.all]at ha;simp[BE.af,h k ha]
 |c n=>intro _;rfl
 |not a ih=>intro ha;simp only[BE.all]at ha;simp[BE.af,ih ha]
 |sM a=>intro ha;simp only[BE.all]at ha;simp[BE.af,IE.av h ha]
 |and a b uS uT=>intro ha;simp only[BE.all,ao]at ha;simp[BE.af,uS ha.1,uT ha.2]
 |or a b uS uT=>intro ha;simp only[BE.all,ao]at ha;simp[BE.af,uS ha.1,uT ha.2]
 |iff a b uS uT=>intro ha;simp only[BE.all,ao]at ha;simp[BE.af,uS ha.1,uT ha.2]
 |lt a b=>intro ha;simp only[BE.all,ao]at ha;simp[BE.af,IE.av h ha.1,IE.av h ha.2]
 |le a b=>intro ha;simp only[BE.all,ao]at ha;simp[BE.af,IE.av h ha.1,IE.av h ha.2]
 |eq a b=>intro ha;simp only[BE.all,ao]at ha;simp[BE.af,IE.av h ha.1,IE.av h ha.2]
structure bH(p:Nat->Bool)(ae aq:aF)(ph aQ:Ph):Prop where
 e:∀k,p k=true->ae k=aq k
 r:∀k,p k=true->ph.r k=aQ.r k
 v:∀k,p k=true->ph.v k=aQ.v k
variable {p:Nat->Bool}{ae aq:aF}{ph aQ:Ph}
theorem dK.av(h:bH p ae aq ph aQ):∀ {l:dK},l.all p=true->l.af ae ph=l.af aq aQ:=by
 intro l ha;cases l with
 |i k e=>simp only[dK.all]at ha;simp[dK.af,IE.av h.e ha]
 |b e=>simp only[dK.all]at ha;simp[dK.af,BE.av h.e ha]
 |s row=>simp only[dK.all]at ha;simp[dK.af,Ph.val,h.v _ ha]
 |lM=>rfl
theorem dK.D4{l:dK}:l.up.af ae ph=l.af ae ph:=by cases l<;>rfl
theorem ak.down_up{l:ak}{x:dK}(h:l.down=some x):l=x.up:=by
 cases l<;>simp_all[ak.down]<;>(subst h;rfl)
theorem ak.av(h:bH p ae aq ph aQ):∀ {l:ak},l.all p=true->l.af ae ph=l.af aq aQ:=by
 intro l ha;cases l with
 |i k e=>simp only[ak.all]at ha;simp[ak.af,IE.av h.e ha]
 |b e=>simp only[ak.all]at ha;simp[ak.af,BE.av h.e ha]
 |p id off=>simp only[ak.all]at ha;simp[ak.af,h.r _ ha]
 |ep row sz x j=>simp only[ak.all,ao]at ha;simp[ak.af,h.v _ ha.1,IE.av h.e ha.2]
 |pi id off sz n x=>simp only[ak.all,ao]at ha;simp[ak.af,h.r _ ha.1,IE.av h.e ha.2]
 |s row=>simp only[ak.all]at ha;simp[ak.af,Ph.val,h.v _ ha]
 |lM=>rfl
 |UC=>rfl
 |f g=>rfl
 | fn g dT=>
   simp only[ak.all,mE]at ha;simp only[ak.af];congr 2;exact zF fun c hc=>by
     unfold mT;rw[h.r _ (ha c hc),h.v _ (ha c hc)]
 |fl e=>simp only[ak.all]at ha;simp[ak.af,IE.av h.e ha]
 |str bs=>rfl
 |UD=>rfl
 |Ib=>rfl
 | bf g agg ls=>
   simp only[ak.all,mE]at ha;have e:ls.map (dK.af ae ph)=ls.map (dK.af aq aQ):=zF fun c hc=>dK.av h (ha c hc);simp only[ak.af,e]
 |vw row sz lo n=>simp only[ak.all,ao]at ha;simp[ak.af,h.v _ ha.1,IE.av h.e ha.2.1,IE.av h.e ha.2.2]
 |cs row=>simp only[ak.all]at ha;simp[ak.af,h.v _ ha]
 |bs id n sz=>simp only[ak.all]at ha;simp[ak.af,h.r _ ha]
 |kb row bs=>simp only[ak.all]at ha;simp[ak.af,Ph.val,h.v _ ha]
 |ab row m b=>simp only[ak.all]at ha;simp[ak.af,h.v _ ha]
theorem kP(h:bH p ae aq ph aQ):∀ {ls:List ak},bG p ls=true->ls.map (ak.af ae ph)=ls.map (ak.af aq aQ):=by
 intro ls;induction ls with
 |nil=>intro _;rfl
 | cons l ls ih=>
   intro ha;simp only[bG,ao]at ha;simp only[kQ,ak.av h ha.1,ih ha.2]
theorem V1.av(h:bH p ae aq ph aQ):∀ {x:V1},x.all p=true->x.af ae ph=x.af aq aQ:=by
 intro x ha;cases x with
 |one l=>exact ak.av h ha
 |agg ls=>simp only[V1.all]at ha;simp only[V1.af,kP h ha]
theorem CU(h:bH p ae aq ph aQ):∀ {xs:List V1},ei p xs=true->xs.map (V1.af ae ph)=xs.map (V1.af aq aQ):=by
 intro ls;induction ls with
 |nil=>intro _;rfl
 | cons l ls ih=>
   intro ha;simp only[ei,ao]at ha;simp only[kQ,V1.av h ha.1,ih ha.2]
theorem SV.av(h:bH p ae aq ph aQ):∀ {x:SV},x.all p=true->x.af ae ph=x.af aq aQ:=by
 intro x ha;cases x with
 |v x=>exact V1.av h ha
 |H5 xs=>simp only[SV.all]at ha;simp only[SV.af,CU h ha]
theorem bc.av(h:bH p ae aq ph aQ){s:bc}(ha:s.all p=true):s.af ae ph=s.af aq aQ:=by
 simp only[bc.all,ao]at ha;simp only[bc.af,BE.av h.e ha.1,SV.av h ha.2]
end
section
open Go.RowKit
variable{w:World}{B:Nat}{ae:aF}{ph:Ph}{st:St}{v:Value}{w':World}{z z':Nat->Prop}{aQ:Ph}{aU:List NK}{aq:aF}{e:TypeId}{n:eO}{bl:List iX}{k:Nat}{rows:List Row}
def CK.val:CK->Int->Value
 |.i k,n=>.int k n
 |.b,n=>.bool (decide (n≠0))
 |.f,n=>.float .f64 n.toNat
def bU:List CK->Nat->List Int->List Value
 | [],_,_=>[]
 |k::ks,j,r=>k.val (r.getD j 0)::bU ks (j+1) r
def aJ(ks:List CK):List (List Int)->List Value
 | []=>[]
 |r::rs=>bU ks 0 r++aJ ks rs
theorem cO(ks:List CK):∀j r,(bU ks j r).length=ks.length:=by
 induction ks with
 |nil=>intro j r;rfl
 |cons k ks ih=>intro j r;simp[bU,ih]
theorem jv(ks:List CK):∀(j0:Nat) (r:List Int) (j:Nat),(bU ks j0 r)[j]?=(ks[j]?).map fun k=>k.val (r.getD (j0+j) 0):=by
 induction ks with
 |nil=>intro j0 r j;simp[bU]
 | cons k ks ih=>
   intro j0 r j;cases j with
   |zero=>simp[bU]
   | succ j=>
     simp only[bU,Am,ih];rw[show j0+1+j=j0+(j+1)by omega]
theorem bV(ks:List CK)(xs:List (List Int)):(aJ ks xs).length=xs.length*ks.length:=by
 induction xs with
 |nil=>simp[aJ]
 |cons r rs ih=>simp[aJ,cO,ih,lY,Nat.add_comm]
theorem mU(ks:List CK)(xs ys:List (List Int)):aJ ks (xs++ys)=aJ ks xs++aJ ks ys:=by
 induction xs with
 |nil=>rfl
 |cons r rs ih=>simp[aJ,ih]
theorem nE(ks:List CK):∀(xs:List (List Int)) (i j:Nat),i<xs.length->j<ks.length->
   (aJ ks xs)[i*ks.length+j]?=(ks[j]?).map fun k=>k.val ((xs.getD i []).getD j 0):=by
 intro xs;induction xs with
 |nil=>intro i j hi;simp at hi
 | cons r rs ih=>
   intro i j hi hj;cases i with
   | zero=>
     simp only[aJ,Nat.zero_mul,fR];rw[p9 (by rw[cO];exact hj),jv];simp
   | succ i=>
     simp only[aJ];rw[qv (by rw[cO,lY];omega),cO];have e:(i+1)*ks.length+j-ks.length=i*ks.length+j:=by rw[lY];omega
     rw[e,ih i j (by simpa using hi) hj];simp
theorem CK.pq(k:CK)(n:Int):(k.val n).oneCell'=true:=by cases k<;>rfl
theorem jw(ks:List CK)(xs:List (List Int)):∀u∈aJ ks xs,u.oneCell'=true:=by
 have bB:∀(ks:List CK) j r,∀u∈bU ks j r,u.oneCell'=true:=by
   intro ks;induction ks with
   |nil=>intro j r u hu;simp[bU]at hu
   | cons k ks ih=>
     intro j r u hu;simp only[bU,bC]at hu;rcases hu with rfl|hu;exact CK.pq _ _;exact ih _ _ u hu
 induction xs with
 |nil=>intro u hu;simp[aJ]at hu
 | cons r rs ih=>
   intro u hu;simp only[aJ,jS]at hu;rcases hu with hu|hu;exact bB _ _ _ u hu;exact ih u hu
def Reads(w:World)(v:Value)(n:Nat)(cells:List Value):Prop:=
 ∃base cap,v = .slice base n cap/\(n<=maxLen/\n<=cap)/\(base=none->n=0/\cap=0)/\∀j u,cells[j]?=some u->∃a,base=some a/\w.cell? (a.add j)=some u
theorem qa{sz:Nat}{n:Nat}{xs:List Value}(h:w.ownsRow B e sz v n xs):Reads w v n xs:=by
 have h':=h;obtain⟨hl,⟨rfl,rfl⟩|⟨g,cap,cur,rfl,hg,hh,hn,hc,hs,ht⟩⟩:=h;refine⟨none,0,rfl,⟨Nat.zero_le _,Nat.zero_le _⟩,fun _=>⟨rfl,rfl⟩,fun j u hj=>?_⟩;rw[Nat.zero_mul]at hl;rw[D5 hl]at hj;simp at hj;refine⟨some ⟨g,0,none⟩,cap,rfl,⟨lN hn hc,hn⟩,fun h=>by simp at h,fun j u hj=>⟨_,rfl,?_⟩⟩;exact h'.cells (by simp[Value.ownBlock]) j u hj
def gZ(B:Nat)(ae:aF)(ph:Ph)(r:Row)(w:World):Prop:=
 0<r.ks.length/\
 (if r.own then w.ownsRow B r.e r.ks.length (ph.val r.id) (ae r.lv).list.length (aJ r.ks (ae r.lv).list)
  else Reads w (ph.val r.id) (ae r.lv).list.length (aJ r.ks (ae r.lv).list))
theorem gZ.reads{r:Row}(h:gZ B ae ph r w) :
   Reads w (ph.val r.id) (ae r.lv).list.length (aJ r.ks (ae r.lv).list):=by
 obtain⟨_,h⟩:=h;split at h;exact qa h;exact h
def Row.cc(ae:aF)(ph:Ph)(r:Row):Option Nat:=if r.own||decide ((ae r.lv).list.length≠0)then(ph.val r.id).ownBlock else none
theorem gZ.uk{r:Row}(h:gZ B ae ph r w)(hk:r.cc ae ph=some k):k<w.heap.size:=by
 obtain⟨h0,h⟩:=h;unfold Row.cc at hk;split at hk;rename_i hc;split at h;exact(h.lt k hk).2;rename_i ho;have da:(ae r.lv).list.length≠0:=by simpa[ho]using hc
 obtain⟨base,cap,hv,_,_,jc⟩:=h;have hl:=bV r.ks (ae r.lv).list;have nF:0<(aJ r.ks (ae r.lv).list).length:=by rw[hl];exact Nat.mul_pos (by omega) h0
 obtain⟨a,rfl,ha⟩:=jc 0 _ (eN nF);rw[hv]at hk;simp only[Value.ownBlock,ah]at hk;have:=World.block_lt_of_cell? w (a.add 0) ha;rw[Addr.add_zero']at this;omega;cases hk
def vf(B:Nat)(ae:aF)(ph:Ph)(b:iX)(w:World):Prop:=
 B<=ph.r b.id/\w.heap[ph.r b.id]?=some (.cells (b.cells.map (ak.af ae ph)).toArray b.ty (0,0))
structure kz(B:Nat)(ae:aF)(ph:Ph)(bl:List iX)(rows:List Row)(w:World):Prop where
 oo:∀b∈bl,vf B ae ph b w
 bb:∀b∈bl,∀b'∈bl,b.id≠b'.id->ph.r b.id≠ph.r b'.id
 row:∀r∈rows,r.g.af ae=true->gZ B ae ph r w
 br:∀b∈bl,∀r∈rows,r.g.af ae=true->r.cc ae ph≠some (ph.r b.id)
 rr:∀r∈rows,∀r'∈rows,r.id≠r'.id->r.own=true->r.g.af ae=true->r'.g.af ae=true->∀k,r.cc ae ph=some k->r'.cc ae ph≠some k
def gB(ae:aF)(ph:Ph)(ts:List (Option bc))(tmps:Array Value):Prop:=
 ts.length=tmps.size/\∀(t:Nat) (s:bc),ts[t]?=some (some s)->tmps[t]?=some (s.af ae ph)
structure Ao(st:St):Prop where
 tmps:∀(t:Nat) (s:bc),st.tmps[t]?=some (some s)->s.all st.has=true
 bl:∀b∈st.bl,b.all st.has=true
 rows:∀r∈st.rows,r.all st.has=true
def sf(z:Nat->Prop)(w:World)(nk:NK)(h:Int)(xs:List Int)(v:Value):Prop:=
 match nk with
 |.c k=>v=k.val h
 |.s _ k=>h=(xs.length:Int)/\Reads w v xs.length (aJ [k] (xs.map fun x=>[x]))/\(xs≠[]->∀b,v.ownBlock=some b->z b)
def sQ(z:Nat->Prop)(w:World)(aU:List NK)(v:Value)(xs:List (List Int)):Prop:=
 ∃base cap,v = .slice base xs.length cap/\xs.length<=maxLen/\(base=none->xs.length=0/\cap=0)/\
   ∀i r,xs[i]?=some r->∃a,base=some a/\z a.block/\∀j nk,aU[j]?=some nk->∃u,w.cell? (a.add (i*aU.length+j))=some u/\sf z w nk (r.getD j 0) (eU aU r j) u
def D6(z:Nat->Prop)(w:World)(B:Nat)(e:TypeId)(aU:List NK)(v:Value)(xs:List (List Int)):Prop:=
 ∃cs:List Value,w.ownsRow B e aU.length v xs.length cs/\∀i r,xs[i]?=some r->∀j nk,aU[j]?=some nk->∃u,cs[i*aU.length+j]?=some u/\sf z w nk (r.getD j 0) (eU aU r j) u
def acr(ae:aF)(ph:Ph)(n:eO):Prop:=
 ∃base cap,ph.val n.id = .slice base (ae n.lv).list.length cap/\(ae n.lv).list.length<=maxLen/\(base=none->(ae n.lv).list.length=0/\cap=0)
theorem yO{a:Addr}(h:w'.heap[a.block]?=w.heap[a.block]?):w'.cell? a=w.cell? a:=by
 unfold World.cell?;rw[h]
theorem kR(a:Addr)(j:Nat):(a.add j).block=a.block:=by unfold Addr.add;split<;>rfl
theorem Reads.nG{n:Nat}{cells:List Value}(h:Reads w v n cells)(hz:cells≠[]->∀b,v.ownBlock=some b->w'.heap[b]?=w.heap[b]?):Reads w' v n cells:=by
 obtain⟨base,cap,rfl,hn,h0,hc⟩:=h;refine⟨base,cap,rfl,hn,h0,fun j u hj=>?_⟩;obtain⟨a,rfl,ha⟩:=hc j u hj;refine⟨a,rfl,?_⟩;have hb:w'.heap[(a.add j).block]?=w.heap[(a.add j).block]? :=by
   rw[kR];exact hz (by intro e;rw[e]at hj;simp at hj) _ (by simp[Value.ownBlock])
 rw[yO hb];exact ha
theorem sf.nG{nk:NK}{h:Int}{xs:List Int}(hz:∀k,z k->w'.heap[k]?=w.heap[k]?)(JW:∀k,z k->z' k)(hc:sf z w nk h xs v):sf z' w' nk h xs v:=by
 cases nk with
 |c k=>exact hc
 | s e k=>
   obtain⟨h1,h2,h3⟩:=hc;have ne:aJ [k] (xs.map fun x=>[x])≠[]->xs≠[]:=fun da e=>da (by subst e;rfl);exact⟨h1,h2.nG fun da b hb=>hz _ (h3 (ne da) b hb),fun da b hb=>JW _ (h3 da b hb)⟩
theorem sQ.nG{xs:List (List Int)}(hz:∀k,z k->w'.heap[k]?=w.heap[k]?)(JW:∀k,z k->z' k)(h:sQ z w aU v xs):sQ z' w' aU v xs:=by
 obtain⟨base,cap,hv,hn,h0,hc⟩:=h;refine⟨base,cap,hv,hn,h0,fun i r hi=>?_⟩;obtain⟨a,e,hza,jc⟩:=hc i r hi;refine⟨a,e,JW _ hza,fun j nk hj=>?_⟩;obtain⟨u,hu,vC⟩:=jc j nk hj;have hb:w'.heap[(a.add (i*aU.length+j)).block]?=w.heap[(a.add (i*aU.length+j)).block]? :=by
   rw[kR];exact hz _ hza
 exact⟨u,by rw[yO hb];exact hu,vC.nG hz JW⟩
theorem D6.reads{xs:List (List Int)}(h0:0<aU.length)(h:D6 z w B e aU v xs)(hz:∀k,z k->z' k)(ho:∀k,v.ownBlock=some k->z' k):sQ z' w aU v xs:=by
 obtain⟨cs,bR,hc⟩:=h;have h':=bR;obtain⟨hl,⟨rfl,hn⟩|⟨g,cap,cur,rfl,hg,hh,hn,Od,hs,ht⟩⟩:=bR;refine⟨none,0,by rw[hn],by rw[hn];exact Nat.zero_le _,fun _=>⟨hn,rfl⟩,fun i r hi=>?_⟩;rw[D5 hn]at hi;simp at hi;refine⟨some ⟨g,0,none⟩,cap,rfl,lN hn Od,fun h=>by simp at h,fun i r hi=>⟨_,rfl,ho g (by simp[Value.ownBlock]),fun j nk hj=>?_⟩⟩;obtain⟨u,hu,vC⟩:=hc i r hi j nk hj;exact⟨u,h'.cells (by simp[Value.ownBlock]) _ _ hu,vC.nG (fun _ _=>rfl) hz⟩
theorem D6.nG{xs:List (List Int)}(h:D6 z w B e aU v xs)(hz:∀k,z k->w'.heap[k]?=w.heap[k]?)(JW:∀k,z k->z' k)(ho:∀k,v.ownBlock=some k->w'.heap[k]?=w.heap[k]?):D6 z' w' B e aU v xs:=by
 obtain⟨cs,bR,hc⟩:=h;refine⟨cs,?_,fun i r hi j nk hj=>?_⟩;obtain⟨hl,hr⟩:=bR;refine⟨hl,hr.imp (fun x=>x) ?_⟩;rintro⟨g,cap,cur,hv,hg,hh,Ap⟩;exact⟨g,cap,cur,hv,hg,by rw[ho g (by rw[hv];rfl)];exact hh,Ap⟩;obtain⟨u,hu,vC⟩:=hc i r hi j nk hj;exact⟨u,hu,vC.nG hz JW⟩
def fS(B:Nat)(ae:aF)(ph:Ph)(n:eO)(w:World):Prop:=
 if n.own then D6 (fun k=>ph.z k/\B<=k) w B n.e n.aU (ph.val n.id) (ae n.lv).list else sQ ph.z w n.aU (ph.val n.id) (ae n.lv).list
structure dM(B:Nat)(ae:aF)(ph:Ph)(st:St)(w:World):Prop where
 lt:∀k,ph.z k->k<w.heap.size
 bz:∀b∈st.bl,¬ ph.z (ph.r b.id)
 rz:∀r∈st.rows,r.own=true->r.g.af ae=true->∀k,r.cc ae ph=some k->¬ ph.z k
 rd:∀n∈st.bp,n.g.af ae=true->0<n.aU.length/\fS B ae ph n w
 nm:∀n∈st.bp,n.all st.has=true
 oz:∀n∈st.bp,n.own=true->n.g = .c true/\∀k,(ph.val n.id).ownBlock=some k->¬ ph.z k/\(∀b∈st.bl,ph.r b.id≠k)/\(∀r∈st.rows,r.g.af ae=true->r.cc ae ph≠some k)/\∀n'∈st.bp,n'.own=true->n'.id≠n.id->(ph.val n'.id).ownBlock≠some k
theorem dM.own(h:dM B ae ph st w)(hn:n∈st.bp)(ho:n.own=true):n.g = .c true/\0<n.aU.length/\D6 (fun k=>ph.z k/\B<=k) w B n.e n.aU (ph.val n.id) (ae n.lv).list:=by
 have hg:=(h.oz n hn ho).1;obtain⟨h0,h1⟩:=h.rd n hn (by rw[hg];rfl);unfold fS at h1;rw[if_pos ho]at h1;exact⟨hg,h0,h1⟩
theorem dM.qc(h:dM B ae ph st w)(hn:n∈st.bp)(ho:n.own=true)(hk:(ph.val n.id).ownBlock=some k):B<=k/\k<w.heap.size:=by
 obtain⟨_,_,cs,bR,_⟩:=h.own hn ho;exact bR.lt k hk
theorem dM.reads(h:dM B ae ph st w)(hn:n∈st.bp)(hg:n.g.af ae=true):0<n.aU.length/\sQ (fun k=>k<w.heap.size) w n.aU (ph.val n.id) (ae n.lv).list:=by
 obtain⟨h0,h1⟩:=h.rd n hn hg;refine⟨h0,?_⟩;unfold fS at h1;split at h1;exact h1.reads h0 (fun k hk=>h.lt k hk.1) (fun k hk=>(h.qc hn (by assumption) hk).2);exact h1.nG (fun _ _=>rfl) h.lt
theorem dM.acs(h:dM B ae ph st w):∀n∈st.bp,n.g.af ae=true->acr ae ph n/\0<n.aU.length:=fun n hn hg=>by
 obtain⟨h0,base,cap,hv,hl,hb,_⟩:=h.reads hn hg;exact⟨⟨base,cap,hv,hl,hb⟩,h0⟩
structure Sat(w0:World)(ae:aF)(ph:Ph)(st:St)(a:Act)(w:World):Prop where
 tmps:gB ae ph st.tmps a.tmps
 mem:kz w0.heap.size ae ph st.bl st.rows w
 below:Below w0.heap.size w0 w
 defers:a.defers=[]
 names:Ao st
 nest:dM w0.heap.size ae ph st w
theorem kz.congr{p:Nat->Bool}(hg:bH p ae aq ph aQ)
   (hb:∀b∈bl,b.all p=true) (hr:∀r∈rows,r.all p=true) (h:kz B ae ph bl rows w):kz B aq aQ bl rows w:=by
 have eb:∀b∈bl,ph.r b.id=aQ.r b.id/\b.cells.map (ak.af ae ph)=b.cells.map (ak.af aq aQ):=fun b hm=>by
   have:=hb b hm;simp only[iX.all,ao]at this;exact⟨hg.r _ this.1,kP hg this.2⟩
 have er:∀r∈rows,ph.val r.id=aQ.val r.id/\ae r.lv=aq r.lv/\r.g.af ae=r.g.af aq:=fun r hm=>by
   have:=hr r hm;simp only[Row.all,ao]at this;exact⟨by simp only[Ph.val,hg.v _ this.1],hg.e _ this.2.1,BE.av hg.e this.2.2⟩
 refine⟨fun b hm=>?_,fun b hm b' lR da=>?_,fun r hm h1=>?_,fun b hm r lR h1=>?_,fun r hm r' lR da ho h1 h2=>?_⟩;have:=h.oo b hm;unfold vf at *;rw[<- (eb b hm).1,<- (eb b hm).2];exact this;rw[<- (eb b hm).1,<- (eb b' lR).1];exact h.bb b hm b' lR da;obtain⟨e1,e2,e3⟩:=er r hm;have:=h.row r hm (by rw[e3];exact h1);unfold gZ at *;rw[<- e1,<- e2];exact this;obtain⟨e1,e2,e3⟩:=er r lR;have:=h.br b hm r lR (by rw[e3];exact h1);unfold Row.cc at *;rw[<- e1,<- e2,<- (eb b hm).1];exact this;obtain⟨e1,e2,e3⟩:=er r hm;obtain⟨f1,f2,f3⟩:=er r' lR;have hf:r.cc aq aQ=r.cc ae ph:=by unfold Row.cc;rw[e1,e2]
 have B9:r'.cc aq aQ=r'.cc ae ph:=by unfold Row.cc;rw[f1,f2]
 rw[hf,B9];exact h.rr r hm r' lR da ho (by rw[e3];exact h1) (by rw[f3];exact h2)
theorem dM.congr(h:dM B ae ph st w)(hg:bH st.has ae aq ph aQ)(hz:aQ.z=ph.z)
   (hb:∀b∈st.bl,b.all st.has=true) (hr:∀r∈st.rows,r.all st.has=true):dM B aq aQ st w:=by
 have en:∀n∈st.bp,aQ.val n.id=ph.val n.id/\aq n.lv=ae n.lv/\n.g.af aq=n.g.af ae:=fun n hn=>by
   have:=h.nm n hn;simp only[eO.all,ao]at this;exact⟨by simp only[Ph.val,hg.v _ this.1],(hg.e _ this.2.1).symm,(BE.av hg.e this.2.2).symm⟩
 have er:∀r∈st.rows,r.cc aq aQ=r.cc ae ph/\r.g.af aq=r.g.af ae:=fun r hm=>by
   have:=hr r hm;simp only[Row.all,ao]at this;refine⟨?_,(BE.av hg.e this.2.2).symm⟩;unfold Row.cc;rw[hg.e _ this.2.1];simp only[Ph.val,hg.v _ this.1]
 have eb:∀b∈st.bl,aQ.r b.id=ph.r b.id:=fun b hm=>by
   have:=hb b hm;simp only[iX.all,ao]at this;exact(hg.r _ this.1).symm
 refine⟨fun k hk=>h.lt k (by rw[<- hz];exact hk),fun b hm=>?_,fun r hm ho h1 k hk=>?_,fun n hm h1=>?_,h.nm,fun n hm ho=>?_⟩;rw[hz,eb b hm];exact h.bz b hm;rw[hz];exact h.rz r hm ho (by rw[<- (er r hm).2];exact h1) k (by rw[<- (er r hm).1];exact hk);obtain⟨e1,e2,e3⟩:=en n hm;have:=h.rd n hm (by rw[<- e3];exact h1);unfold fS at *;rw[hz,e1,e2];exact this;obtain⟨e1,e2,e3⟩:=en n hm;obtain⟨h1,h2⟩:=h.oz n hm ho;refine⟨h1,fun k hk=>?_⟩;rw[e1]at hk;obtain⟨g1,g2,g3,g4⟩:=h2 k hk;refine⟨by rw[hz];exact g1,fun b CV=>by rw[eb b CV];exact g2 b CV,fun r UE iM=>?_,fun n' lR re da=>?_⟩;rw[(er r UE).1];exact g3 r UE (by rw[<- (er r UE).2];exact iM);rw[(en n' lR).1];exact g4 n' lR re da
theorem Sat.congr{w0:World}{a:Act}(h:Sat w0 ae ph st a w)(hg:bH st.has ae aq ph aQ)(hz:aQ.z=ph.z:=by rfl):Sat w0 aq aQ st a w:=by
 refine⟨⟨h.tmps.1,fun t s ht=>?_⟩,h.mem.congr hg h.names.bl h.names.rows,h.below,h.defers,h.names,h.nest.congr hg hz h.names.bl h.names.rows⟩;rw[<- bc.av hg (h.names.tmps t s ht)];exact h.tmps.2 t s ht
theorem kz.D7(h:kz B ae ph bl rows w){b:iX}(hm:b∈bl):ph.r b.id<w.heap.size:=by
 have:=(h.oo b hm).2;exact(sy.1 this).1
end
section
open Go.RowKit
theorem vE{k:IntKind}{n:Int}(h:k.min<=n/\n<=k.max):k.wrap n=n:=by
 obtain⟨h1,h2⟩:=h;cases k<;>simp[IntKind.wrap,IntKind.min,IntKind.max,IntKind.signed,IntKind.bits]at * <;>omega
theorem yP(x:Int):(BitVec.ofInt 64 x).toNat=(x%18446744073709551616).toNat:=by
 rw[BitVec.toNat_ofInt];rfl
theorem F8(k:IntKind)(hk:k = .i64\/k = .u64)(x:Int)(m:Nat)(hm:m<=62) :
   Go.bits .and k x (((2 ^ m:Nat):Int)-1)=x%((2 ^ m:Nat):Int):=by
 have nF:0<2 ^ m:=Nat.two_pow_pos m;have hle:2 ^ m<=2 ^ 62:=Nat.pow_le_pow_right (by decide) hm;have e1:(BitVec.ofInt 64 (((2 ^ m:Nat):Int)-1)).toNat=2 ^ m-1:=by
   rw[yP];generalize 2 ^ m=q at *;have:((q:Int)-1)%18446744073709551616=(q:Int)-1:=Int.emod_eq_of_lt (by omega) (by simp at hle;omega);rw[this];omega
 have e2:(BitVec.ofInt 64 x &&& BitVec.ofInt 64 (((2 ^ m:Nat):Int)-1)).toNat=(x%18446744073709551616).toNat%2 ^ m:=by
   rw[BitVec.toNat_and,e1,Nat.and_two_pow_sub_one_eq_mod,yP]
 have e3:(((x%18446744073709551616).toNat%2 ^ m:Nat):Int)=x%((2 ^ m:Nat):Int):=by
   have h0:0<=x%18446744073709551616:=zG _ (by decide);rw[Int.natCast_emod,Int.toNat_of_nonneg h0];apply Int.emod_emod_of_dvd;have:(18446744073709551616:Int)=((2 ^ 64:Nat):Int):=by decide
   rw[this];exact Int.natCast_dvd_natCast.2 (Nat.pow_dvd_pow 2 (by omega))
 have cM:(x%18446744073709551616).toNat%2 ^ m<2 ^ m:=Nat.mod_lt _ nF;have hw:∀n:Nat,n<2 ^ 62->k.wrap (n:Int)=n:=by
   intro n hn;apply vE;rcases hk with rfl|rfl<;>simp[IntKind.min,IntKind.max,IntKind.signed,IntKind.bits]at * <;>omega
 rcases hk with rfl|rfl;show IntKind.i64.wrap ((BitVec.ofInt 64 x &&& BitVec.ofInt 64 (((2 ^ m:Nat):Int)-1)).toNat:Int)=_;rw[e2,hw _ (by omega),e3];show IntKind.u64.wrap ((BitVec.ofInt 64 x &&& BitVec.ofInt 64 (((2 ^ m:Nat):Int)-1)).toNat:Int)=_;rw[e2,hw _ (by omega),e3]
theorem yQ:∀ {f:Nat} {n:Int} {m:Nat},Aq f n=some m->m<f/\n=((2 ^ m:Nat):Int)-1:=by
 intro f;induction f with
 |zero=>intro n m h;simp[Aq]at h
 | succ f ih=>
   intro n m h;unfold Aq at h;split at h;rename_i he;simp only[ah]at h;subst h;exact⟨by omega,by omega⟩;obtain⟨h1,h2⟩:=ih h;exact⟨by omega,h2⟩
section
variable {ae:aF}{ph:Ph}
theorem kA{wr:Bool}{k:IntKind}{e:IE}(hn:∀n∈(arith wr k e).1,n.af ae=true):(arith wr k e).2.af ae ph = .int k (k.wrap (e.af ae)):=by
 rw[<- IE.cL ae e];unfold arith at hn ⊢;generalize e.mk=e' at *;unfold Oe at hn ⊢;split at hn;rfl;cases wr;exact(congrArg (Value.int k) (vE (UB (hn _ (iE.2 rfl)))).symm);rfl
end
end
section
open Go.RowKit
variable {ae:aF}{ph:Ph}{P:Program}{w:World}
theorem JX(k yk:IntKind)(x y:Int)(t:TypeId)(h0:0<=y)(h1:y<=k.bits):(binOp .shl t (.int k x) (.int yk y)).run P w = .ok (.int k (k.wrap (x*2 ^ y.toNat))) w:=by
 rw[binOp_shl,shift_shl k yk x y h0 h1];rfl
theorem JY(k yk:IntKind)(x y:Int)(t:TypeId)(h0:0<=y)(h1:y<=k.bits):(binOp .shr t (.int k x) (.int yk y)).run P w = .ok (.int k (x/2 ^ y.toNat)) w:=by
 rw[binOp_shr,shift_shr k yk x y h0 h1];rfl
theorem UF(k:IntKind)(x y:Int)(t:TypeId)(h:y≠0):(binOp .quo t (.int k x) (.int k y)).run P w = .ok (.int k (k.wrap (x.tdiv y))) w:=by
 rw[binOp_quo];simp[Op.intDiv,h]
theorem UG(k:IntKind)(x y:Int)(t:TypeId)(h:y≠0):(binOp .rem t (.int k x) (.int k y)).run P w = .ok (.int k (x.tmod y)) w:=by
 rw[binOp_rem];simp[Op.intDiv,h]
theorem JZ{e:IE}(h:((BE.sM e).mk).af ae=true):e.af ae≠0:=by
 rw[BE.cL]at h;simpa[BE.af]using h
theorem ck{a b:IE}(h:((BE.le a b).mk).af ae=true):a.af ae<=b.af ae:=by
 rw[BE.cL]at h;simpa[BE.af]using h
theorem fJ{a b:IE}(h:((BE.lt a b).mk).af ae=true):a.af ae<b.af ae:=by
 rw[BE.cL]at h;simpa[BE.af]using h
theorem As{wr:Bool}{op:BinOp}{l1 l2 l:ak}{ns:List BE}(t:TypeId)(x y:Operand)(h:Of wr op l1 l2=some (ns,l))(hn:∀n∈ns,n.af ae=true) :
   (do eqGuard op t x y (l1.af ae ph) (l2.af ae ph);binOp op t (l1.af ae ph) (l2.af ae ph):Sem Value).run P w = .ok (l.af ae ph) w:=by
 have go:∀(k:IntKind) (a:IE) (v:Value),(binOp op t (.int k (a.af ae)) (l2.af ae ph)).run P w = .ok v w->l1 = .i k a->v=l.af ae ph->
     (do eqGuard op t x y (l1.af ae ph) (l2.af ae ph);binOp op t (l1.af ae ph) (l2.af ae ph):Sem Value).run P w = .ok (l.af ae ph) w:=by
   intro k a v hr hl hv;subst hl;rw[<- hv,<- hr];show Sem.run P (do eqGuard op t x y (.int k (a.af ae)) (l2.af ae ph);binOp op t (.int k (a.af ae)) (l2.af ae ph)) w=_;rw[eqGuard_at_int];rfl
 unfold Of at h;split at h;rename_i k a _ n;split at h;rename_i hc;obtain⟨h0,h1,h2⟩:=hc;simp only[ah]at h;have h':arith wr k (.mul a (.c ((2 ^ n.toNat:Nat):Int)))=(ns,l):=h;have:=kA (ae:=ae) (ph:=ph) (wr:=wr) (k:=k) (e:=.mul a (.c ((2 ^ n.toNat:Nat):Int))) (by rw[h'];exact hn);rw[h']at this;refine go k a _ (JX k _ _ n t h0 h2) rfl ?_;rw[this];simp[IE.af];cases h;rename_i k a _ b _;simp only[ah,aD]at h;obtain⟨rfl,rfl⟩:=h;have h0:=ck (hn _ (aZ ..));have h1:=ck (hn _ (bI _ (aZ ..)));have:=kA (ae:=ae) (ph:=ph) (wr:=wr) (k:=k) (e:=.shl a b) (fun n hm=>hn n (bI _ (bI _ hm)));exact go k a _ (JX k _ _ _ t h0 h1) rfl this.symm;rename_i k a _ n;split at h;rename_i hc;obtain⟨h0,h1,h2⟩:=hc;simp only[ah,aD]at h;obtain⟨rfl,rfl⟩:=h;refine go k a _ (JY k _ _ n t h0 h2) rfl ?_;simp only[ak.af,IE.cL];simp[IE.af];cases h;rename_i k a _ b _;simp only[ah,aD]at h;obtain⟨rfl,rfl⟩:=h;have h0:=ck (hn _ (aZ ..));have h1:=ck (hn _ (bI _ (aZ ..)));refine go k a _ (JY k _ _ _ t h0 h1) rfl ?_;simp only[ak.af,IE.cL];simp[IE.af];rename_i k a k' b;split at h;rename_i hk;subst hk;simp only[ah]at h;have h':arith wr k (.add a b)=(ns,l):=h;have:=kA (ae:=ae) (ph:=ph) (wr:=wr) (k:=k) (e:=.add a b) (by rw[h'];exact hn);rw[h']at this;exact go k a _ (by simp[ak.af,binOp_add,Op.intArith];rfl) rfl this.symm;cases h;rename_i k a k' b;split at h;rename_i hk;subst hk;simp only[ah]at h;have h':arith wr k (.sub a b)=(ns,l):=h;have:=kA (ae:=ae) (ph:=ph) (wr:=wr) (k:=k) (e:=.sub a b) (by rw[h'];exact hn);rw[h']at this;exact go k a _ (by simp[ak.af,binOp_sub,Op.intArith];rfl) rfl this.symm;cases h;rename_i k a k' b;split at h;rename_i hk;subst hk;simp only[ah]at h;have h':arith wr k (.mul a b)=(ns,l):=h;have:=kA (ae:=ae) (ph:=ph) (wr:=wr) (k:=k) (e:=.mul a b) (by rw[h'];exact hn);rw[h']at this;exact go k a _ (by simp[ak.af,binOp_mul,Op.intArith];rfl) rfl this.symm;cases h;rename_i k a k' b;split at h;rename_i hk;subst hk;simp only[ah,aD]at h;obtain⟨rfl,rfl⟩:=h;have h0:=JZ (hn _ (aZ ..));have:=kA (ae:=ae) (ph:=ph) (wr:=wr) (k:=k) (e:=.tdiv a b) (fun n hm=>hn n (bI _ hm));exact go k a _ (UF k _ _ t h0) rfl this.symm;cases h;rename_i k a k' b;split at h;rename_i hk;subst hk;simp only[ah,aD]at h;obtain⟨rfl,rfl⟩:=h;have h0:=JZ (hn _ (aZ ..));refine go k a _ (UG k _ _ t h0) rfl ?_;simp only[ak.af,IE.cL];simp[IE.af];cases h;rename_i k a k' n;split at h;rename_i hk;subst hk;have hand:∀(k:IntKind) (a b:Int),(binOp .and t (.int k a) (.int k b)).run P w = .ok (.int k (Go.bits .and k a b)) w:=fun k a b=>by rw[binOp_and,intBits_and];rfl
 split at h;rename_i m hm;simp only[ah,aD]at h;obtain⟨rfl,rfl⟩:=h;obtain⟨wE,H6⟩:=yQ hm;refine go _ a _ (hand _ _ _) rfl ?_;rw[H6];simp only[IE.af];rw[F8 _ (.inl rfl) _ m (by omega)];simp only[ak.af,IE.cL];simp[IE.af];rename_i m hm;simp only[ah,aD]at h;obtain⟨rfl,rfl⟩:=h;obtain⟨wE,H6⟩:=yQ hm;refine go _ a _ (hand _ _ _) rfl ?_;rw[H6];simp only[IE.af];rw[F8 _ (.inr rfl) _ m (by omega)];simp only[ak.af,IE.cL];simp[IE.af];simp only[ah,aD]at h;obtain⟨rfl,rfl⟩:=h;refine go _ a _ (hand _ _ _) rfl ?_;simp only[ak.af,IE.cL];simp[IE.af];cases h;rename_i k a k' b _;split at h;rename_i hk;subst hk;simp only[ah,aD]at h;obtain⟨rfl,rfl⟩:=h;refine go k a (.int k (Go.bits .and k (a.af ae) (b.af ae))) (by simp only[ak.af,binOp_and,intBits_and];rfl) rfl ?_;simp only[ak.af,IE.cL];rfl;cases h;rename_i k a k' b;split at h;rename_i hk;subst hk;simp only[ah,aD]at h;obtain⟨rfl,rfl⟩:=h;refine go k a (.int k (Go.bits .or k (a.af ae) (b.af ae))) (by simp only[ak.af,binOp_or,intBits_or];rfl) rfl ?_;simp only[ak.af,IE.cL];rfl;cases h;rename_i k a k' b;split at h;rename_i hk;subst hk;simp only[ah,aD]at h;obtain⟨rfl,rfl⟩:=h;refine go k a (.int k (Go.bits .xor k (a.af ae) (b.af ae))) (by simp only[ak.af,binOp_xor,intBits_xor];rfl) rfl ?_;simp only[ak.af,IE.cL];rfl;cases h;rename_i k a k' b;split at h;rename_i hk;subst hk;simp only[ah,aD]at h;obtain⟨rfl,rfl⟩:=h;refine go k a (.int k (Go.bits .andNot k (a.af ae) (b.af ae))) (by simp only[ak.af,binOp_andNot,intBits_andNot];rfl) rfl ?_;simp only[ak.af,IE.cL];rfl;cases h
 all_goals first
   |cases h;done
   | (rename_i k a k' b
      split at h
      . rename_i hk;subst hk;simp only[ah,aD]at h;obtain⟨rfl,rfl⟩:=h;refine go k a (.bool _) (by simp only[ak.af,binOp_lss,binOp_leq,binOp_gtr,binOp_geq,binOp_eql,binOp_neq];rfl) rfl ?_;simp only[ak.af,BE.cL,BE.af]
        try first|rfl|(rw[Bool.eq_iff_iff];simp;done)|(simp[bne];rw[Bool.eq_iff_iff];simp;done)
      cases h)
end
section
open Go.RowKit
variable {ae:aF}{ph:Ph}{P:Program}{w:World}
variable{t:TypeId}{ks:List CK}{n:Nat}
def veq:Value->Value->Bool
 |.int _ a,.int _ b=>decide (a=b)
 |.bool a,.bool b=>a==b
 |_,_=>false
def ow:List Value->List Value->Bool
 | [],[]=>true
 |x::xs,y::ys=>veq x y&&ow xs ys
 |_,_=>false
def Ic:CK->Value->Bool
 |.i k,.int k' _=>decide (k=k')
 |.b,.bool _=>true
 |.f,.float .f64 _=>true
 |_,_=>false
def jT:List CK->List Value->Bool
 | [],[]=>true
 |k::ks,x::xs=>Ic k x&&jT ks xs
 |_,_=>false
theorem gH:∀ {ks:List CK} {xs:List Value},jT ks xs=true->xs.length=ks.length:=by
 intro ks;induction ks with
 | nil=>intro xs h;cases xs with
   |nil=>rfl
   |cons x xs=>simp[jT]at h
 | cons k ks ih=>intro xs h;cases xs with
   |nil=>simp[jT]at h
   |cons x xs=>simp only[jT,ao]at h;simp[ih h.2]
theorem nH:∀ {ks ks':List CK} {xs:List Value},jT (ks++ks') xs=true->jT ks (xs.take ks.length)=true/\jT ks' (xs.drop ks.length)=true:=by
 intro ks;induction ks with
 |nil=>intro ks' xs h;exact⟨rfl,by simpa using h⟩
 | cons k ks ih=>intro ks' xs h;cases xs with
   |nil=>simp[jT]at h
   | cons x xs=>
     simp only[sR,jT,ao]at h;obtain⟨h1,h2⟩:=ih h.2;exact⟨by simp[jT,h.1,h1],by simpa using h2⟩
theorem yR:∀ {xs ys nA ys':List Value},xs.length=ys.length->ow (xs++nA) (ys++ys')=(ow xs ys&&ow nA ys'):=by
 intro xs;induction xs with
 | nil=>intro ys nA ys' h;cases ys with
   |nil=>simp[ow]
   |cons y ys=>simp at h
 | cons x xs ih=>intro ys nA ys' h;cases ys with
   |nil=>simp at h
   |cons y ys=>simp only[sR,ow,ih (by simpa using h),Bool.and_assoc]
def pv(P:Program)(t:TypeId)(cs:List Value):Value:=if ie P t then .agg cs.toArray else cs.headD undef
theorem cA(h:0<P.cellsOf t):(sizeOf t).run P w = .ok (P.cellsOf t) w:=by
 unfold Program.cellsOf at *;cases hi:P.info? t with
 |none=>simp[hi]at h
 |some i=>simp[sizeOf,typeInfo,hi]
theorem um(h:(P.underlying t).isSome=true):(isAgg t).run P w = .ok (ie P t) w:=by
 obtain⟨d,hd⟩:=At.1 h;simp only[isAgg,ie,ff,run_underlying hd,fc,hd];cases d<;>rfl
theorem uo(h:(P.underlying t).isSome=true)(hs:0<P.cellsOf t){cs:Array Value}{off:Nat}(hl:off+P.cellsOf t<=cs.size)(h1:ie P t=false->P.cellsOf t=1) :
   (part t cs off).run P w = .ok (pv P t ((cs.toList.drop off).take (P.cellsOf t))) w:=by
 simp only[part,ff,um h,fc,pv];cases hb:ie P t with
 | true=>
   simp only[if_true,ff,cA hs,fc,gk];congr 2;apply kS;simp[Array.toList_extract,List.extract_eq_take_drop]
 | false=>
   have H7:=h1 hb;rw[H7]at hl ⊢;have:cs[off]?=some cs[off]:=by simp[Array.getElem?_eq_getElem (show off<cs.size by omega)]
   simp only[jU,if_false,this,gk];congr 1;rw[List.drop_eq_getElem_cons (by simp;omega)];simp
theorem CW(h:flat P n t=some ks):(P.underlying t).isSome=true:=by
 cases n with
 |zero=>simp[flat]at h
 | succ n=>
   unfold flat at h;cases hu:P.underlying t with
   |none=>simp[hu]at h
   |some d=>rfl
theorem wG(h:flat P n t=some ks)(ha:ie P t=false):ks.length=1:=by
 cases n with
 |zero=>simp[flat]at h
 | succ n=>
   unfold flat at h;unfold ie at ha;split at h<;>simp_all;rw[<- h];rfl;rw[<- h];rfl
theorem xP:∀(n:Nat) (t:TypeId) (ks:List CK),flat P n t=some ks->YQ.xQ P n t=false->∀(d:Nat),n<=d->∀xs ys:List Value,
   jT ks xs=true->jT ks ys=true->∀w,(Op.equalIn d t (pv P t xs) (pv P t ys)).run P w = .ok (ow xs ys) w:=by
 intro n;induction n with
 |zero=>intro t ks h;simp[flat]at h
 | succ n ih=>
   intro t ks h hh d hd xs ys hx hy w;obtain⟨d,rfl⟩:∃d',d=d'+1:=⟨d-1,by omega⟩;unfold flat at h;unfold YQ.xQ at hh;split at h;rename_i k hu;simp only[ah]at h;subst h;have hlx:=gH hx;have hly:=gH hy
   match xs,ys,hlx,hly with
   | [x],[y],_,_=>
     simp only[jT,Bool.and_true]at hx hy;cases x<;>simp[Ic]at hx;cases y<;>simp[Ic]at hy;simp only[pv,ie,hu,jU,if_false,List.headD_cons];subst hx;subst hy;rw[run_equalIn_int w d t _ _ _ _ hu];simp[ow,veq];rw[Bool.eq_iff_iff];simp
   rename_i hu;simp only[ah]at h;subst h;have hlx:=gH hx;have hly:=gH hy
   match xs,ys,hlx,hly with
   | [x],[y],_,_=>
     simp only[jT,Bool.and_true]at hx hy;cases x<;>simp[Ic]at hx;cases y<;>simp[Ic]at hy;simp only[pv,ie,hu,jU,if_false,List.headD_cons];rw[run_equalIn_bool w d t _ _ hu];simp[ow,veq]
   rename_i fs hu;simp only[hu,vF]at hh;obtain⟨eK,UH⟩:=hh;simp only[pv,ie,hu,if_true];have hf:P.fieldsOf t=fs:=by simp[Program.fieldsOf,hu]
   rw[run_equalIn_struct w d t _ _ (by rw[hf];exact hu) eK,hf];have key:∀(l:List Field) (off:Nat) (ks:List CK),Au P (flat P n) off l=some ks->(l.any fun f=>f.name == "_" ||YQ.xQ P n f.type)=false->
       ∀xs ys:List Value,xs.length=off+ks.length->ys.length=off+ks.length->jT ks (xs.drop off)=true->jT ks (ys.drop off)=true->
       ∀w,(Op.eqFields d xs.toArray ys.toArray l).run P w = .ok (ow (xs.drop off) (ys.drop off)) w:=by
     intro l;induction l with
     | nil=>
       intro off ks h _ xs ys hx hy _ _ w;simp only[Au,ah]at h;subst h;simp at hx hy;simp[Op.eqFields,List.drop_eq_nil_of_le,hx,hy,ow]
     | cons f l ihl=>
       intro off ks h UH xs ys qw hyl hx hy w;simp only[Au]at h;split at h;rename_i Ie;split at h;rename_i m hm;split at h;rename_i hc;split at h;rename_i r hr;simp only[ah]at h;subst h;simp only[List.any_cons,vF]at UH;obtain⟨⟨acu,Og⟩,Ap⟩:=UH;have da:f.name≠ "_" :=by simpa using acu
       obtain⟨YR,YS⟩:=nH hx;obtain⟨hy1,hy2⟩:=nH hy;simp only[fE]at qw hyl;have NT:=CW hm;have px:=uo (P:=P) (w:=w) NT (by omega) (cs:=xs.toArray) (off:=f.offset) (by simp;omega) (fun ha=>by rw[hc.1];exact wG hm ha);have py:=uo (P:=P) (w:=w) NT (by omega) (cs:=ys.toArray) (off:=f.offset) (by simp;omega) (fun ha=>by rw[hc.1];exact wG hm ha);simp only[D8,hc.1,Ie]at px py;simp only[Op.eqFields,da,ne_eq,not_false_eq_true,if_true,ff,Ie,px,py,fc];rw[ih f.type m hm Og d (by omega) _ _ YR hy1 w];simp only[fc];have e:ow (xs.drop off) (ys.drop off)=(ow ((xs.drop off).take m.length) ((ys.drop off).take m.length)&&ow ((xs.drop off).drop m.length) ((ys.drop off).drop m.length)):=by
         rw[<- yR (by simp;omega),D9,D9]
       rw[e];cases ow ((xs.drop off).take m.length) ((ys.drop off).take m.length);simp;have:=ihl (off+m.length) r hr Ap xs ys (by omega) (by omega) (by simpa using YS) (by simpa using hy2) w;simp only[Bool.not_true,jU,if_false,Bool.true_and,List.drop_drop];exact this;cases h;cases h;cases h;cases h
   have hlx:=gH hx;have hly:=gH hy;exact key fs.toList 0 ks h UH xs ys (by omega) (by omega) (by simpa using hx) (by simpa using hy) w;rename_i len e hu;split at h;rename_i m hm;split at h;rename_i hc;simp only[ah]at h;subst h;simp only[hu]at hh;simp only[pv,ie,hu,if_true];have hi:∃i,P.info? e=some i:=by
     have:=hc.2;rw[<- hc.1]at this;unfold Program.cellsOf at this;cases hi:P.info? e with
     |none=>simp[hi]at this
     |some i=>exact⟨i,rfl⟩
   obtain⟨i,hi⟩:=hi;rw[run_equalIn_array w d _ _ hu hi];have NT:=CW hm;have key:∀(c:Nat) (s:Nat) (xs ys:List Value),xs.length=(s+c)*m.length->ys.length=(s+c)*m.length->
       jT (List.replicate c m).flatten (xs.drop (s*m.length))=true->jT (List.replicate c m).flatten (ys.drop (s*m.length))=true->
       ∀w,(Op.eqItems d e (P.cellsOf e) xs.toArray ys.toArray (List.range' s c)).run P w = .ok (ow (xs.drop (s*m.length)) (ys.drop (s*m.length))) w:=by
     intro c;induction c with
     | zero=>
       intro s xs ys hx hy _ _ w;rw[iy]at hx hy;have e1:xs.drop (s*m.length)=[]:=List.drop_eq_nil_of_le (by omega);have e2:ys.drop (s*m.length)=[]:=List.drop_eq_nil_of_le (by omega);simp[Op.eqItems,e1,e2,ow]
     | succ c ihc=>
       intro s xs ys qw hyl hx hy w;simp only[List.replicate_succ,List.flatten_cons]at hx hy;obtain⟨YR,YS⟩:=nH hx;obtain⟨hy1,hy2⟩:=nH hy;have F9:(s+(c+1))*m.length=s*m.length+m.length+c*m.length:=by rw[lY,lY,Nat.one_mul];omega
       have px:=uo (P:=P) (w:=w) NT (by omega) (cs:=xs.toArray) (off:=s*m.length) (by simp;omega) (fun ha=>by rw[hc.1];exact wG hm ha);have py:=uo (P:=P) (w:=w) NT (by omega) (cs:=ys.toArray) (off:=s*m.length) (by simp;omega) (fun ha=>by rw[hc.1];exact wG hm ha);simp only[D8,hc.1]at px py;simp only[List.range'_succ,Op.eqItems,ff,hc.1,px,py,fc];rw[ih e m hm hh d (by omega) _ _ YR hy1 w];simp only[fc];have e:ow (xs.drop (s*m.length)) (ys.drop (s*m.length))=(ow ((xs.drop (s*m.length)).take m.length) ((ys.drop (s*m.length)).take m.length)&&ow ((xs.drop (s*m.length)).drop m.length) ((ys.drop (s*m.length)).drop m.length)):=by
         rw[<- yR (by simp;omega),D9,D9]
       rw[e];have e3:(s+1)*m.length=s*m.length+m.length:=by rw[lY,Nat.one_mul]
       have Ax:(s+1+c)*m.length=(s+(c+1))*m.length:=by congr 1;omega
       cases ow ((xs.drop (s*m.length)).take m.length) ((ys.drop (s*m.length)).take m.length);simp;have:=ihc (s+1) xs ys (by omega) (by omega) (by rw[e3];simpa using YS) (by rw[e3];simpa using hy2) w;simp only[Bool.not_true,jU,if_false,Bool.true_and,List.drop_drop];rw[hc.1,e3]at this;exact this
   have hlx:=gH hx;have hly:=gH hy;have Ua:(List.replicate len m).flatten.length=len*m.length:=by simp
   rw[List.range_eq_range'];have:=key len 0 xs ys (by rw[fR];omega) (by rw[fR];omega) (by simpa using hx) (by simpa using hy) w;simpa using this;cases h;cases h;cases h
theorem LF{k:CK}{l:ak}(h:fits k l=true):Ic k (l.af ae ph)=true:=by
 cases k<;>cases l<;>simp[fits]at h<;>simp[Ic,ak.af,h]
theorem vg:∀ {ks:List CK} {ls:List ak},rj ks ls=true->jT ks (ls.map (ak.af ae ph))=true:=by
 intro ks;induction ks with
 | nil=>intro ls h;cases ls with
   |nil=>rfl
   |cons l ls=>simp[rj]at h
 | cons k ks ih=>intro ls h;cases ls with
   |nil=>simp[rj]at h
   |cons l ls=>simp only[rj,ao]at h;simp[jT,LF h.1,ih h.2]
theorem Ig{x y:ak}{p:BE}(h:Ih x y=some p):p.af ae=veq (x.af ae ph) (y.af ae ph):=by
 unfold Ih at h;split at h;split at h;simp only[ah]at h;subst h;simp[BE.cL,BE.af,veq,ak.af];cases h;simp only[ah]at h;subst h;simp[BE.cL,BE.af,veq,ak.af];cases h
theorem Ga:∀ {xs ys:List ak} {p:BE},rk xs ys=some p->p.af ae=ow (xs.map (ak.af ae ph)) (ys.map (ak.af ae ph)):=by
 intro xs;induction xs with
 | nil=>intro ys p h;cases ys with
   |nil=>simp only[rk,ah]at h;subst h;rfl
   |cons y ys=>simp[rk]at h
 | cons x xs ih=>intro ys p h;cases ys with
   |nil=>simp[rk]at h
   | cons y ys=>
     simp only[rk]at h;split at h;rename_i p1 p2 h1 h2;simp only[ah]at h;subst h;simp[BE.cL,BE.af,ow,Ig (ph:=ph) h1,ih h2];cases h
theorem J0{x y:V1}{p:BE}(h:YQ P t x y=some p)(X Y:Operand) :
   (do eqGuard .eql t X Y (x.af ae ph) (y.af ae ph);binOp .eql t (x.af ae ph) (y.af ae ph):Sem Value).run P w = .ok (.bool (p.af ae)) w/\
   (do eqGuard .neq t X Y (x.af ae ph) (y.af ae ph);binOp .neq t (x.af ae ph) (y.af ae ph):Sem Value).run P w = .ok (.bool (!(p.af ae))) w:=by
 unfold YQ at h;split at h;rename_i a b;split at h;rename_i hu;simp only[ah]at h;subst h;constructor;show Sem.run P (do eqGuard .eql t X Y (.bool _) (.bool _);binOp .eql t (.bool _) (.bool _)) w=_;rw[eqGuard_at_bool];simp only[ff,gk,fc];rw[run_eql_bool w t _ _ hu];simp[BE.cL,BE.af];show Sem.run P (do eqGuard .neq t X Y (.bool _) (.bool _);binOp .neq t (.bool _) (.bool _)) w=_;rw[eqGuard_at_bool];simp only[ff,gk,fc];rw[run_neq_bool w t _ _ hu];simp[BE.cL,BE.af];cases h;rename_i xs ys;split at h;rename_i ks hk;split at h;rename_i hc;simp only[ao,nJ]at hc;obtain⟨⟨⟨⟨hx,hy⟩,Ea⟩,hg⟩,Og⟩:=hc;have he:=xP (P:=P) 16 t ks hk Og 10000 (by omega) _ _ (vg (ae:=ae) (ph:=ph) hx) (vg (ae:=ae) (ph:=ph) hy) w;simp only[pv,Ea,if_true]at he;have hd:=Ga (ae:=ae) (ph:=ph) h;constructor;simp only[V1.af,ff,run_eqGuard_agg w _ t X Y _ _ hg,fc,run_eql_struct,he,hd];simp only[V1.af,ff,run_eqGuard_agg w _ t X Y _ _ hg,fc,run_neq_struct,he,hd];cases h;cases h;cases h
end
section
open Go.RowKit
variable {ae:aF}{ph:Ph}{P:Program}
variable{st:St}{v:V1}{x:IE}{G:BE}{t:TypeId}{w:World}{id:Nat}{l:ak}{n B:Nat}{cs:List ak}{lv sz:Nat}
theorem iF(a:Addr)(i j:Nat):(a.add i).add j=a.add (i+j):=by
 unfold Addr.add;by_cases hi:i=0;subst hi;simp;by_cases hj:j=0;subst hj;simp[hi];simp[hi,hj,Nat.add_assoc]
theorem jM(b o j:Nat):(⟨b,o,none⟩:Addr).add j=⟨b,o+j,none⟩:=Addr.add_lit b o j
theorem Gb{v:Value}{x:V1}(h:ofConst v=some x):x.af ae ph=v:=by
 unfold ofConst at h;split at h<;>simp only[ah,reduceCtorEq]at h<;>subst h<;>rfl
theorem sS{x:Operand}{sv:SV}{a:Act}(h:LG st G x=some sv)(hG:G.af ae=true)(ht:gB ae ph st.tmps a.tmps) :
   a.eval x=sv.af ae ph:=by
 unfold LG at h;split at h;rename_i t;split at h;rename_i s hs;split at h;rename_i hg;simp only[ah]at h;subst h;have:=ht.2 t s hs;simp only[Act.eval,Array.getD_eq_getD_getElem?,this,Option.getD_some,bc.af,BE.df hg hG,if_true];cases h;cases h;rename_i v;simp only[bN]at h;obtain⟨y,hy,rfl⟩:=h;exact(Gb hy).symm;simp only[ah]at h;subst h;rfl;cases h
theorem cZ{x:Operand}{a:Act}(h:lS st G x=some v)(hG:G.af ae=true)(ht:gB ae ph st.tmps a.tmps) :
   a.eval x=v.af ae ph:=by
 unfold lS at h;split at h;rename_i y hy;simp only[ah]at h;subst h;exact sS hy hG ht;cases h
theorem aG{x:Operand}{a:Act}(h:bJ st G x=some l)(hG:G.af ae=true)(ht:gB ae ph st.tmps a.tmps) :
   a.eval x=l.af ae ph:=by
 unfold bJ at h;split at h;rename_i y hy;simp only[ah]at h;subst h;exact sS hy hG ht;cases h
theorem eW{b:iX}(h:gT st id=some b):b∈st.bl/\b.id=id:=by
 unfold gT at h;exact⟨xR h,by simpa using List.find?_some h⟩
theorem bn{r:Row}(h:bO st id=some r):r∈st.rows/\r.id=id:=by
 unfold bO at h;exact⟨xR h,by simpa using List.find?_some h⟩
theorem dF{r:eO}(h:fx st id=some r):r∈st.bp/\r.id=id:=by
 unfold fx at h;exact⟨xR h,by simpa using List.find?_some h⟩
def Looks(P:Program)(t:TypeId)(v:V1):Prop:=
 (P.underlying t).isSome=true/\0<P.cellsOf t/\((ie P t=true/\∃ls,v = .agg ls/\ls.length=P.cellsOf t)\/(ie P t=false/\∃l,v = .one l))
theorem yS{ls:List ak}{off:Nat}{r:List ak}(h:Ii ls off n=some r):r.length=n/\r=(ls.drop off).take n/\off+n<=ls.length:=by
 unfold Ii at h;split at h;simp only[ah]at h;subst h;exact⟨by simp;omega,rfl,by assumption⟩;cases h
theorem ox{off:Nat}(h:sT P t cs off=some v) :
   Looks P t v/\∀j l,v.leaves[j]?=some l->cs[off+j]?=some l:=by
 unfold sT at h;split at h;rename_i hc;simp only[ao,aO]at hc;split at h;rename_i ha;simp only[bN]at h;obtain⟨ls,xH,rfl⟩:=h;obtain⟨h1,h2,h3⟩:=yS xH;refine⟨⟨hc.1,hc.2,.inl ⟨ha,ls,rfl,h1⟩⟩,fun j l hj=>?_⟩;simp only[V1.leaves]at hj;rw[h2,Ay]at hj;split at hj;rw[List.getElem?_drop]at hj;exact hj;cases hj;rename_i ha;simp only[bN]at h;obtain⟨l,hl,rfl⟩:=h;refine⟨⟨hc.1,hc.2,.inr ⟨by simpa using ha,l,rfl⟩⟩,fun j l' hj=>?_⟩;simp only[V1.leaves]at hj;cases j with
 |zero=>simp at hj;subst hj;simpa using hl
 |succ j=>simp at hj
 cases h
theorem jd{a:Addr}(hv:Looks P t v)(hc:∀j l,v.leaves[j]?=some l->w.cell? (a.add j)=some (l.af ae ph)) :
   (loadVar t a).run P w = .ok (v.af ae ph) w:=by
 obtain⟨hu,hs,⟨ha,ls,rfl,hl⟩|⟨ha,l,rfl⟩⟩:=hv;simp only[loadVar,ff,um hu,fc,ha,if_true,cA hs];have:=run_loadCells_list (P:=P) w a (ls.map (ak.af ae ph)) (fun j u hj=>by
   rw[iS]at hj;simp only[bN]at hj;obtain⟨l,hl,rfl⟩:=hj;exact hc j l hl)
 rw[qd,hl]at this;simp only[this,fc,gk];rfl;simp only[loadVar,ff,um hu,fc,ha,jU,if_false];have:=hc 0 l rfl;rw[Addr.add_zero']at this;simp[run_load,this,V1.af]
theorem xS{off:Nat}(h:sT P t cs off=some v) :
   (part t (cs.map (ak.af ae ph)).toArray off).run P w = .ok (v.af ae ph) w:=by
 obtain⟨⟨hu,hs,hv⟩,hc⟩:=ox h;simp only[part,ff,um hu,fc];rcases hv with⟨ha,ls,rfl,hl⟩|⟨ha,l,rfl⟩;simp only[ha,if_true,ff,cA hs,fc,gk,V1.af];congr 2;unfold sT at h;simp only[hu,hs,decide_true,Bool.and_self,if_true,ha,bN]at h;obtain⟨J1,xH,e⟩:=h;obtain⟨h1,h2,h3⟩:=yS xH;simp only[V1.agg.injEq]at e;subst e;apply kS;simp[Array.toList_extract,List.extract_eq_take_drop,h2,List.map_take,List.map_drop];have:=hc 0 l rfl;simp only[iy]at this;simp[ha,this,V1.af]
theorem Ch:∀ {n:Nat} {cells:List ak} {off sz:Nat} {ls:List ak},sU cells off sz n=some ls->ls.length=n/\∀j l,ls[j]?=some l->cells[off+j*sz]?=some l:=by
 intro n;induction n with
 |zero=>intro cells off sz ls h;simp only[sU,ah]at h;subst h;simp
 | succ n ih=>
   intro cells off sz ls h;simp only[sU]at h;split at h;rename_i l J1 h1 h2;simp only[ah]at h;subst h;obtain⟨h3,h4⟩:=ih h2;refine⟨by simp[h3],fun j l' hj=>?_⟩;cases j with
   |zero=>simp at hj;subst hj;simpa using h1
   | succ j=>
     simp only[Am]at hj;have:=h4 j l' hj;rw[lY,Nat.one_mul];rwa[show off+(j*sz+sz)=off+sz+j*sz by omega]
   cases h
theorem Gc:∀ {ls:List ak} {j:Nat} {l:ak},uq x j ls=some l->∀i:Nat,x.af ae=((j+i:Nat):Int)->i<ls.length->∃l',ls[i]?=some l'/\l.af ae ph=l'.af ae ph:=by
 intro ls;induction ls with
 |nil=>intro j l h;simp[uq]at h
 | cons l0 ls ih=>
   intro j l h i hx hi;cases ls with
   | nil=>
     simp only[uq,ah]at h;subst h;have:i=0:=by simp at hi;exact hi
     subst this;exact⟨l0,rfl,rfl⟩
   | cons l1 ls=>
     simp only[uq]at h;split at h;rename_i k a k' b h1;split at h;rename_i hk;subst hk;simp only[ah]at h;subst h;cases i with
     | zero=>
       refine⟨_,rfl,?_⟩;simp only[iy]at hx;simp[ak.af,IE.af,hx]
     | succ i=>
       obtain⟨l',wH,he⟩:=ih h1 i (by rw[hx];congr 1;omega) (by simpa using hi);refine⟨l',by simpa using wH,?_⟩;have da:x.af ae≠(j:Int):=by rw[hx];omega
       rw[<- he];simp[ak.af,IE.af,da]
     cases h;rename_i p q h1;simp only[ah]at h;subst h;cases i with
     | zero=>
       refine⟨_,rfl,?_⟩;simp only[iy]at hx;simp[ak.af,BE.af,IE.af,hx]
     | succ i=>
       obtain⟨l',wH,he⟩:=ih h1 i (by rw[hx];congr 1;omega) (by simpa using hi);refine⟨l',by simpa using wH,?_⟩;have da:x.af ae≠(j:Int):=by rw[hx];omega
       rw[<- he];simp[ak.af,BE.af,IE.af,da]
     cases h
theorem xT{cells:List ak}{off:Nat}(h:Gd cells off sz n x=some l)(h0:0<=x.af ae)(h1:x.af ae<(n:Int)) :
   ∃l',cells[off+(x.af ae).toNat*sz]?=some l'/\l.af ae ph=l'.af ae ph:=by
 unfold Gd at h;split at h;rename_i ls xH;obtain⟨e1,e2⟩:=Ch xH;obtain⟨l',wH,he⟩:=Gc (ae:=ae) (ph:=ph) h (x.af ae).toNat (by omega) (by omega);exact⟨l',e2 _ l' wH,he⟩;cases h
theorem Eb{cells:List ak}(h0:0<=x.af ae)(h1:x.af ae<(n:Int)):∀ {m off:Nat} {ls:List ak},sV cells sz n x off m=some ls->
   ls.length=m/\∀j l,ls[j]?=some l->∃l',cells[off+j+(x.af ae).toNat*sz]?=some l'/\l.af ae ph=l'.af ae ph:=by
 intro m;induction m with
 |zero=>intro off ls h;simp only[sV,ah]at h;subst h;simp
 | succ m ih=>
   intro off ls h;simp only[sV]at h;split at h;rename_i l J1 h2 h3;simp only[ah]at h;subst h;obtain⟨e1,e2⟩:=ih h3;refine⟨by simp[e1],fun j l' hj=>?_⟩;cases j with
   |zero=>simp at hj;subst hj;exact xT h2 h0 h1
   | succ j=>
     simp only[Am]at hj;have:=e2 j l' hj;rwa[show off+1+j=off+(j+1)by omega]at this
   cases h
theorem Ci:∀ {ks:List CK} {j0 j:Nat},(oq lv x j0 ks)[j]?=(ks[j]?).map (rl lv x (j0+j)):=by
 intro ks;induction ks with
 |nil=>intro j0 j;simp[oq]
 | cons k ks ih=>
   intro j0 j;cases j with
   |zero=>simp[oq]
   |succ j=>simp only[oq,Am,ih];rw[show j0+1+j=j0+(j+1)by omega]
theorem sW{j:Nat}{k:CK}:(rl lv x j k).af ae ph=k.val (cellAt (ae lv).list (x.af ae) j):=by
 cases k<;>rfl
def pt(ph:Ph):ak->Option Nat
 |.p id _=>some (ph.r id)
 |.pi id _ _ _ _=>some (ph.r id)
 |.ep row _ _ _=>(ph.val row).ownBlock
 |.ab row _ _=>(ph.val row).ownBlock
 |_=>none
theorem jN{r:Row}(h:gZ B ae ph r w){i:Int}(h0:0<=i)(h1:i<((ae r.lv).list.length:Int)) :
   ∃a cap,ph.v r.id=(some a,(ae r.lv).list.length,cap)/\∀j k,r.ks[j]?=some k->w.cell? (a.add (i.toNat*r.ks.length+j))=some (k.val (cellAt (ae r.lv).list i j)):=by
 obtain⟨base,cap,hv,hn,mv,hc⟩:=h.reads;have hlen:0<(ae r.lv).list.length:=by omega
 cases base with
 |none=>exact absurd (mv rfl).1 (by omega)
 | some a=>
   have wC:ph.v r.id=(some a,(ae r.lv).list.length,cap):=by
     simp only[Ph.val,Value.slice.injEq]at hv;exact Prod.ext hv.1 (Prod.ext hv.2.1 hv.2.2)
   refine⟨a,cap,wC,fun j k hj=>?_⟩;have H8:j<r.ks.length:=(dw.1 hj).1;have:=nE r.ks (ae r.lv).list i.toNat j (by omega) H8;rw[hj]at this;obtain⟨a',e,nB⟩:=hc _ _ this;simp only[ah]at e;subst e;exact nB
theorem CX{ns:List BE}{w':World}(h:CY P st G t l=some (ns,v))(hG:G.af ae=true)(hn:∀n∈ns,n.af ae=true)
   (hm:kz B ae ph st.bl st.rows w) (hw:∀k,pt ph l=some k->w'.heap[k]?=w.heap[k]?):(Instr.loadAt t (l.af ae ph)).run P w' = .ok (v.af ae ph) w':=by
 unfold CY at h;split at h;rename_i id off;split at h;rename_i b hb;simp only[bN,aD]at h;obtain⟨v',hv,rfl,rfl⟩:=h;obtain⟨bD,rfl⟩:=eW hb;obtain⟨qx,jc⟩:=ox hv;have Oh:=(hm.oo b bD).2;have Ij:=hw _ rfl;rw[Oh]at Ij;simp only[Instr.loadAt,ak.af,Instr.sureAddr,ff,gk,fc];refine jd qx fun j lf hj=>?_;rw[jM,cell_of_row w' _ _ _ _ _ Ij];have:=jc j lf hj;simp[this];cases h;rename_i id off sz n x;split at h;rename_i b hb;obtain⟨bD,rfl⟩:=eW hb;have Oh:=(hm.oo b bD).2;have Ij:=hw _ rfl;rw[Oh]at Ij;split at h;cases h;rename_i hc;simp only[nJ,Bool.not_eq_false,ao,aO]at hc;have fin:∀v:V1,Looks P t v->(∀j l,v.leaves[j]?=some l->∃l',b.cells[off+j+(x.af ae).toNat*sz]?=some l'/\l.af ae ph=l'.af ae ph)->
     (Instr.loadAt t ((ak.pi b.id off sz n x).af ae ph)).run P w' = .ok (v.af ae ph) w':=by
   intro v qx jc;simp only[Instr.loadAt,ak.af,Instr.sureAddr,ff,gk,fc];refine jd qx fun j lf hj=>?_;obtain⟨l',h1,h2⟩:=jc j lf hj;rw[jM,cell_of_row w' _ _ _ _ _ Ij,show off+(x.af ae).toNat*sz+j=off+j+(x.af ae).toNat*sz by omega];simp[h1,h2]
 split at h;rename_i ha;simp only[bN,aD]at h;obtain⟨ls,xH,rfl,rfl⟩:=h;have h0:=ck (hn _ (aZ ..));have h1:=fJ (hn _ (bI _ (aZ ..)));obtain⟨e1,e2⟩:=Eb (ae:=ae) (ph:=ph) (x:=x) (n:=n) h0 h1 xH;exact fin _ ⟨hc.1,hc.2,.inl ⟨ha,ls,rfl,e1⟩⟩ e2;rename_i ha;simp only[bN,aD]at h;obtain⟨lf,hlf,rfl,rfl⟩:=h;have h0:=ck (hn _ (aZ ..));have h1:=fJ (hn _ (bI _ (aZ ..)));refine fin _ ⟨hc.1,hc.2,.inr ⟨by simpa using ha,lf,rfl⟩⟩ fun j l hj=>?_;cases j with
 | zero=>
   simp only[V1.leaves,kK,ah]at hj;subst hj;exact xT hlf h0 h1
 |succ j=>simp[V1.leaves]at hj
 cases h;rename_i row sz x j;split at h;rename_i r hr;obtain⟨bD,rfl⟩:=bn hr;split at h;rename_i hc;simp only[ao,aO]at hc;obtain⟨hg,rfl⟩:=hc;split at h;rename_i v' hv;simp only[ah,aD]at h;obtain⟨rfl,rfl⟩:=h;have h0:=ck (hn _ (aZ ..));have h1:=fJ (hn _ (bI _ (aZ ..)));simp only[IE.af]at h0 h1;obtain⟨a,cap,jV,iz⟩:=jN (hm.row r bD (BE.df hg hG)) h0 h1;obtain⟨qx,jc⟩:=ox hv;simp only[Instr.loadAt,ak.af,jV,Instr.sureAddr,ff,gk,fc];refine jd qx fun jj lf hj=>?_;have:=jc jj lf hj;rw[Ci]at this;simp only[bN,fR]at this;obtain⟨k,hk,rfl⟩:=this;rw[iF,Nat.add_assoc,sW,<- iz _ k hk];refine World.cell?_of_block (w:=w) ?_;have lO:∀n,(a.add n).block=a.block:=fun n=>by unfold Addr.add;split<;>rfl
 rw[lO];exact hw _ (by simp[pt,Ph.val,jV,Value.ownBlock]);rename_i hv;unfold Oi at h;split at h;rename_i k n ot;split at h;rename_i hc;simp only[ao,aO]at hc;simp only[ah,aD]at h;obtain⟨rfl,rfl⟩:=h;have hle:=ck (hn _ (aZ ..));simp only[IE.af]at hle;have bB:=hm.row r bD (BE.df hg hG);obtain⟨a,cap,jV,_⟩:=jN bB (i:=0) (Int.le_refl _) (by omega);have LH:∀q:Nat,q<P.cellsOf t->w.cell? (a.add (n+q))=some (k.val (cellAt (ae r.lv).list ((n+q:Nat):Int) 0)):=fun q hq=>by
   obtain⟨a',qy,Ec,iz⟩:=jN bB (i:=((n+q:Nat):Int)) (by omega) (by omega);rw[jV]at Ec;simp only[aD,ah]at Ec;obtain⟨rfl,_⟩:=Ec;have:=iz 0 k (by rw[ot];rfl);rw[ot]at this;simp only[List.length_singleton,Nat.mul_one,iy,pz]at this;exact this
 simp only[Instr.loadAt,ak.af,jV,Instr.sureAddr,ff,gk,fc,IE.af];refine jd ⟨hc.1.1,hc.1.2,.inl ⟨hc.2,_,rfl,by simp⟩⟩ fun jj lf hj=>?_;simp only[V1.leaves,iS,bN]at hj;obtain⟨q,hq,rfl⟩:=hj;obtain⟨H9,hqe⟩:=dw.1 hq;simp only[List.length_range]at H9;simp only[List.getElem_range]at hqe;subst hqe;rw[sW,iF,ot];simp only[List.length_singleton,Nat.mul_one,iy,IE.af];rw[show(Int.ofNat n).toNat=n from rfl,<- LH jj H9];refine World.cell?_of_block (w:=w) ?_;have lO:∀n,(a.add n).block=a.block:=fun n=>by unfold Addr.add;split<;>rfl
 rw[lO];exact hw _ (by simp[pt,Ph.val,jV,Value.ownBlock]);cases h;cases h;cases h;cases h;rename_i row m b;split at h;rename_i r hr;obtain⟨bD,rfl⟩:=bn hr;split at h;rename_i hc;simp only[ao,aO,nJ]at hc;obtain⟨⟨⟨⟨hg,ot⟩,hu⟩,pc⟩,hna⟩:=hc;simp only[ah,aD]at h;obtain⟨rfl,rfl⟩:=h;have h1:=fJ (hn _ (aZ ..));have h2:=hn _ (bI _ (aZ ..));rw[BE.cL]at h2;simp only[IE.af,BE.af,aO]at h1 h2;obtain⟨a,cap,jV,iz⟩:=jN (hm.row r bD (BE.df hg hG)) (i:=(m:Int)) (by omega) h1;have nB:=iz 0 (.i .u8) (by rw[ot];rfl);rw[ot]at nB;simp only[List.length_singleton,Nat.mul_one,iy,pz]at nB;simp only[Instr.loadAt,ak.af,jV,Instr.sureAddr,ff,gk,fc];refine jd ⟨hu,by omega,.inr ⟨hna,_,rfl⟩⟩ fun jj lf hj=>?_;cases jj with
 |succ jj=>simp[V1.leaves]at hj
 | zero=>
   simp only[V1.leaves,kK,ah]at hj;subst hj;rw[iF,iy];have hb:∀n,(a.add n).block=a.block:=fun n=>by unfold Addr.add;split<;>rfl
   have:=World.cell?_of_block (w:=w) (w':=w') (a:=a.add m) (by rw[hb];exact hw _ (by simp[pt,Ph.val,jV,Value.ownBlock]));rw[this,nB];simp[ak.af,CK.val,IE.af,jY h2]
 cases h;cases h;cases h
end
section
open Go.RowKit
variable {ae:aF}{ph:Ph}{P:Program}
variable{w:World}{t e:TypeId}{k:IntKind}{B:Nat}{bs:List UInt8}{w':World}{base:Option Addr}{hi:Option Value}{kl:IntKind}{lo n:IE}{sz:Nat}{x:Value}
theorem Ed(bs:List UInt8):(⟨bs.toArray⟩:ByteArray).toList=bs:=by
 rw[ByteArray.toList_eq]
theorem LJ(bs:List UInt8)(i:Nat):(⟨bs.toArray⟩:ByteArray)[i]?=bs[i]? :=by
 by_cases h:i<bs.length;rw[getElem?_pos (⟨bs.toArray⟩:ByteArray) i (by simpa[ByteArray.size]using h),eN h];rfl;rw[getElem?_neg (⟨bs.toArray⟩:ByteArray) i (by simpa[ByteArray.size]using h),uU (by omega)]
theorem vi(bs:List UInt8)(l h:Nat):(⟨bs.toArray⟩:ByteArray).extract l h=⟨((bs.drop l).take (h-l)).toArray⟩:=by
 apply ByteArray.ext;simp
theorem vG(bs:List UInt8):(⟨bs.toArray⟩:ByteArray).size=bs.length:=by simp[ByteArray.size]
theorem Ge{st:St}{G:BE}{X Y:Operand}{x y:V1}{ns:List BE}{p:BE}(h:UI P st G t X Y x y=some (ns,p))(hG:G.af ae=true)(hn:∀n∈ns,n.af ae=true)(hm:kz B ae ph st.bl st.rows w) :
   (do eqGuard .eql t X Y (x.af ae ph) (y.af ae ph);binOp .eql t (x.af ae ph) (y.af ae ph):Sem Value).run P w' = .ok (.bool (p.af ae)) w'/\
   (do eqGuard .neq t X Y (x.af ae ph) (y.af ae ph);binOp .neq t (x.af ae ph) (y.af ae ph):Sem Value).run P w' = .ok (.bool (!(p.af ae))) w':=by
 have sl:∀(a:Option Addr) (l c:Nat),(eqGuard .eql t X Y (.slice a l c) (.slice none 0 0)=pure ())/\(eqGuard .neq t X Y (.slice a l c) (.slice none 0 0)=pure ()):=fun a l c=>⟨rfl,rfl⟩;unfold UI at h;split at h;split at h;rename_i e hu;simp only[ah,aD]at h;obtain⟨rfl,rfl⟩:=h;simp only[V1.af,ak.af,(sl none 0 0).1,(sl none 0 0).2];constructor;simp[Lib.run_eql_slice_nil w' t e none 0 0 0 0 hu,BE.af];simp[run_neq_slice_nil w' t e none 0 0 hu,BE.af];cases h;rename_i row;split at h;rename_i e r hu hr;split at h;rename_i hg;simp only[ah,aD]at h;obtain⟨rfl,rfl⟩:=h;obtain⟨bD,rfl⟩:=bn hr;have h1:=fJ (hn _ (aZ ..));simp only[IE.af]at h1;obtain⟨a,cap,jV,_⟩:=jN (hm.row r bD (BE.df hg hG)) (i:=0) (Int.le_refl _) h1;simp only[V1.af,ak.af,Ph.val,jV,(sl (some a) _ cap).1,(sl (some a) _ cap).2];constructor;simp[Lib.run_eql_slice_nil w' t e (some a) _ cap 0 0 hu,BE.af];simp[run_neq_slice_nil w' t e (some a) _ cap hu,BE.af];cases h;cases h;rename_i a b;split at h;rename_i hu;simp only[ah,aD]at h;obtain⟨rfl,rfl⟩:=h;simp only[V1.af,ak.af,eqGuard_at_string,binOp_string_eql,binOp_string_neq,Ed];constructor;simp[BE.af];by_cases e:a=b<;>simp[e];simp[BE.af];by_cases e:a=b<;>simp[e];cases h;split at h;rename_i ms hu;split at h;rename_i hc;simp only[ah,aD]at h;obtain⟨rfl,rfl⟩:=h;have hi:P.isIface t=true:=by simp[Program.isIface,hu]
 have g:∀op:BinOp,eqGuard op t X Y .nilIface .nilIface=pure ():=fun op=>by
   cases X with
   |const c=>exact eqGuard_nil_constL ..
   | _=>cases Y with
     |const c=>exact eqGuard_nil_constR ..
     |_=>simp[isConst]at hc
 simp only[V1.af,ak.af,g];constructor;simp[run_eql_nil_nil_at w' t hi,BE.af];simp[run_neq_nil_nil_at w' t hi,BE.af];cases h;cases h;cases h
theorem Oj{r:Row}(h:gZ B ae ph r w)(h0:0<=lo.af ae)(hn:0<n.af ae)(hl:lo.af ae+n.af ae<=((ae r.lv).list.length:Int)) :
   ∃a cap,ph.v r.id=(some a,(ae r.lv).list.length,cap)/\(ak.vw r.id sz lo n).af ae ph = .slice (some (a.add ((lo.af ae).toNat*sz))) (n.af ae).toNat (cap-(lo.af ae).toNat):=by
 obtain⟨a,cap,jV,_⟩:=jN h h0 (by omega);refine⟨a,cap,jV,?_⟩;obtain⟨base,qy,hv,hlen,_⟩:=h.reads;simp only[Ph.val,jV,Value.slice.injEq]at hv;obtain⟨_,_,rfl⟩:=hv;simp only[ak.af,jV];rw[if_neg (by omega)];rfl
theorem sh{a:Addr}{len cap:Nat}{i:Int}(hu:P.underlying t=some (.slice e))(h0:0<=i)(h1:i<(len:Int))(hs:0<P.cellsOf e) :
   (Instr.indexAt t (.slice (some a) len cap) (.int k i)).run P w = .ok (.pointer (some (a.add (i.toNat*P.cellsOf e)))) w:=by
 have he:P.elem t=e:=by simp[Program.elem,hu]
 rw[run_indexAt_slice w t a len cap k i (by rw[he];exact hu),he,if_pos ⟨h0,h1⟩,cA hs];rfl
theorem qz{a:Addr}{len cap:Nat}{i:Int}(hu:P.underlying t=some (.slice e))(h0:0<=i)(h1:i<(len:Int))(hs:(P.info? e).isSome=true) :
   (Instr.indexAt t (.slice (some a) len cap) (.int k i)).run P w = .ok (.pointer (some (a.add (i.toNat*P.cellsOf e)))) w:=by
 have he:P.elem t=e:=by simp[Program.elem,hu]
 obtain⟨info,hi⟩:=At.1 hs;rw[run_indexAt_slice w t a len cap k i (by rw[he];exact hu),he,if_pos ⟨h0,h1⟩];simp[sizeOf,typeInfo,hi,Program.cellsOf]
theorem Ok{r:Row}(h:gZ B ae ph r w){i:IE}(hu:P.underlying t=some (.slice e))(hc:P.cellsOf e=sz)(hk:r.ks.length=sz)(h0:0<=lo.af ae)(hl:lo.af ae+n.af ae<=((ae r.lv).list.length:Int))(sA:0<=i.af ae)(J2:i.af ae<n.af ae) :
   (Instr.indexAt t ((ak.vw r.id sz lo n).af ae ph) (.int k (i.af ae))).run P w' = .ok ((ak.ep r.id sz (IE.add lo i).mk 0).af ae ph) w':=by
 obtain⟨a,cap,jV,hd⟩:=Oj (sz:=sz) h h0 (by omega) hl;rw[hd,sh hu sA (by omega) (by rw[hc,<- hk];exact h.1)];simp only[ak.af,jV,IE.cL,IE.af,hc,iF,iy];congr 4;rw[<- lY];congr 1;omega
theorem Ol{r:Row}(h:gZ B ae ph r w){m:Int}{b:UInt8}(hu:P.underlying t=some (.slice e))(hc:P.cellsOf e=1)(hk:r.ks.length=1)(h0:0<=m)(h1:m<((ae r.lv).list.length:Int)) :
   (Instr.indexAt t ((ak.kb r.id bs).af ae ph) (.int k m)).run P w' = .ok ((ak.ab r.id m.toNat b).af ae ph) w':=by
 obtain⟨a,cap,jV,_⟩:=jN h h0 h1;simp only[ak.af,Ph.val,jV];rw[sh hu h0 h1 (by omega)];simp[hc]
theorem LK:∀ {ls:List ak} {xs:List dK},Gg ls=some xs->ls.map (ak.af ae ph)=xs.map (dK.af ae ph):=by
 intro ls;induction ls with
 |nil=>intro xs h;simp only[Gg,ah]at h;subst h;rfl
 | cons l ls ih=>
   intro xs h;simp only[Gg]at h;split at h;rename_i x nA hx qA;simp only[ah]at h;subst h;rw[ak.down_up hx];simp[dK.D4,ih qA];cases h
theorem lZ{i:Int}{y:Nat}{c:BoundsCode}(h0:0<=i)(h1:i<=(y:Int)):(Instr.sliceBound (.int k i) y c).run P w = .ok i.toNat w:=by
 simp[Instr.sliceBound,asIntOf,h0,h1]
theorem vj{lo mx:Option Value}(hu:P.underlying t=some (.slice e)):(Instr.sliceAt t x lo hi mx).run P w=(Instr.slice t x lo hi mx).run P w:=by
 simp[Instr.sliceAt,run_underlying hu]
theorem yT{lo mx:Option Value}(hu:P.underlying t=some .string):(Instr.sliceAt t x lo hi mx).run P w=(Instr.slice t x lo hi mx).run P w:=by
 simp[Instr.sliceAt,run_underlying hu]
theorem CZ{len cap:Nat}{lo hi:Int}(hu:P.underlying t=some (.slice e))(hv:Option Value)(hh:hi=(match hv with|none=>(len:Int)|some (.int _ n)=>n|some _=>hi))(hk:∀v,hv=some v->∃k,v = .int k hi)(h0:0<=lo)(h1:lo<=hi)(h2:hi<=(cap:Int))(hs:0<P.cellsOf e) :
   (Instr.sliceAt t (.slice base len cap) (some (.int kl lo)) hv none).run P w = .ok (.slice (if cap=lo.toNat then base else base.map (·.add (lo.toNat*P.cellsOf e))) (hi-lo).toNat (cap-lo.toNat)) w:=by
 rw[vj hu];have e1:(Instr.sliceBounds true len cap (some (.int kl lo)) hv none).run P w = .ok (lo.toNat,hi.toNat,cap) w:=by
   cases hv with
   | none=>
     simp only at hh;subst hh;simp[Instr.sliceBounds,lZ h0 h1]
   | some v=>
     obtain⟨k,rfl⟩:=hk v rfl;simp[Instr.sliceBounds,lZ (show 0<=hi by omega) h2,lZ h0 (show lo<=(hi.toNat:Int)by omega)]
 simp only[Instr.slice,ff,run_underlying hu,fc,e1,cA hs,gk];congr 3;omega
theorem Ik{len cap:Nat}{kh km:IntKind}(hu:P.underlying t=some (.slice e))(h2:len<=cap)(hs:0<P.cellsOf e) :
   (Instr.sliceAt t (.slice base len cap) none (some (.int kh (len:Int))) (some (.int km (len:Int)))).run P w = .ok (.slice base len len) w:=by
 rw[vj hu];have e1:(Instr.sliceBounds true len cap none (some (.int kh (len:Int))) (some (.int km (len:Int)))).run P w = .ok (0,len,len) w:=by
   simp[Instr.sliceBounds,lZ (P:=P) (w:=w) (k:=km) (c:=.slice3Acap) (show(0:Int)<=(len:Int)by omega) (show(len:Int)<=(cap:Int)by omega),lZ (P:=P) (w:=w) (k:=kh) (c:=.slice3B) (y:=len) (show(0:Int)<=(len:Int)by omega) (Int.le_refl _)]
 simp only[Instr.slice,ff,run_underlying hu,fc,e1,cA hs,gk];cases base with
 |none=>simp
 |some a=>simp[Addr.add_zero']
theorem Gh{lo:Int}(hu:P.underlying t=some .string)(h0:0<=lo)(h1:lo<=(bs.length:Int)) :
   (Instr.sliceAt t (.string ⟨bs.toArray⟩) (some (.int kl lo)) none none).run P w = .ok (.string ⟨(bs.drop lo.toNat).toArray⟩) w:=by
 rw[yT hu];have e1:(Instr.sliceBounds false bs.length bs.length (some (.int kl lo)) none none).run P w = .ok (lo.toNat,bs.length,bs.length) w:=by
   simp[Instr.sliceBounds,lZ h0 h1]
 simp only[Instr.slice,ff,run_underlying hu,fc,vG,gk,vi];simp only[Option.isSome_none,jU,if_false,ff,gk,fc];rw[e1];simp only[fc];rw[qB (by simp)]
theorem LL{hi:Int}{kh:IntKind}(hu:P.underlying t=some .string)(h0:0<=hi)(h1:hi<=(bs.length:Int)) :
   (Instr.sliceAt t (.string ⟨bs.toArray⟩) none (some (.int kh hi)) none).run P w = .ok (.string ⟨(bs.take hi.toNat).toArray⟩) w:=by
 rw[yT hu];have e1:(Instr.sliceBounds false bs.length bs.length none (some (.int kh hi)) none).run P w = .ok (0,hi.toNat,bs.length) w:=by
   simp[Instr.sliceBounds,lZ h0 h1]
 simp only[Instr.slice,ff,run_underlying hu,fc,vG,gk,vi];simp only[Option.isSome_none,jU,if_false,ff,gk,fc];rw[e1];simp
end
section
open Go.RowKit
variable {ae:aF}{ph:Ph}{P:Program}
variable{w:World}{args:Array Operand}{G:BE}{st:St}{t:TypeId}{x:Operand}{o:Oper}{y:Operand}
theorem ak.fZ(l:ak):(l.af ae ph).cells = #[l.af ae ph]:=by
 cases l with
 |ep row sz x j=>simp only[ak.af];cases(ph.v row).1<;>rfl
 |ab row m b=>simp only[ak.af];cases(ph.v row).1<;>rfl
 |_=>rfl
theorem V1.fZ(v:V1):(v.af ae ph).cells=(v.leaves.map (ak.af ae ph)).toArray:=by
 cases v with
 |one l=>simp[V1.af,V1.leaves,ak.fZ]
 |agg ls=>simp[V1.af,V1.leaves,Value.cells]
theorem ak.yU(l:ak):(l.af ae ph).oneCell'=true:=by
 cases l with
 |ep row sz x j=>simp only[ak.af];cases(ph.v row).1<;>rfl
 |ab row m b=>simp only[ak.af];cases(ph.v row).1<;>rfl
 |_=>rfl
theorem nK:∀(ls cells:List ak) (off:Nat),(je cells off ls).map (ak.af ae ph) =
   ((ls.map (ak.af ae ph)).zipIdx 0).foldl (fun cs x=>cs.set (off+x.2) x.1) (cells.map (ak.af ae ph)):=by
 have gen:∀(ls cells:List ak) (off k:Nat),(je cells (off+k) ls).map (ak.af ae ph) =
     ((ls.map (ak.af ae ph)).zipIdx k).foldl (fun cs x=>cs.set (off+x.2) x.1) (cells.map (ak.af ae ph)):=by
   intro ls;induction ls with
   |nil=>intro cells off k;rfl
   | cons l ls ih=>
     intro cells off k;simp only[je,kQ,List.zipIdx_cons,xU];rw[show off+k+1=off+(k+1)by omega,ih];simp[List.map_set]
 intro ls cells off;simpa using gen ls cells off 0
theorem xV(vs:List Value)(cs:Array Value)(off:Nat) :
   (vs.toArray.zipIdx.foldl (fun cs (x:Value×Nat)=>cs.setIfInBounds (off+x.2) x.1) cs).toList=(vs.zipIdx 0).foldl (fun cs x=>cs.set (off+x.2) x.1) cs.toList:=by
 rw[<- Array.foldl_toList];simp only[Array.toList_zipIdx,D8];generalize vs.zipIdx 0=l;induction l generalizing cs with
 |nil=>rfl
 |cons x l ih=>simp only[xU];rw[ih];simp
theorem Il(place:Nat->Option (Nat×Nat)):∀(ps:List (Nat×V1)) (cells r:List ak),C0 place cells ps=some r->
   Instr.fill place (cells.map (ak.af ae ph)).toArray (ps.map fun p=>(p.1,p.2.af ae ph))=some (r.map (ak.af ae ph)).toArray:=by
 intro ps;induction ps with
 |nil=>intro cells r h;simp only[C0,ah]at h;subst h;rfl
 | cons p ps ih=>
   intro cells r h;obtain⟨i,v⟩:=p;simp only[C0]at h;split at h;cases h;rename_i off size hp;split at h;cases h;rename_i hc;simp only[not_or,ne_eq,Decidable.not_not,Nat.not_lt]at hc;simp only[kQ,Instr.fill,hp,V1.fZ];rw[if_neg (by simp;omega)];rw[<- ih _ _ h];congr 1;apply kS;rw[xV];simp[nK]
theorem qe{a:Act}(hG:G.af ae=true)(ht:gB ae ph st.tmps a.tmps):∀ {l:List (Nat×Operand)} {ps:List (Nat×V1)},iN st G l=some ps->
   (l.map fun p=>(p.1,a.eval p.2))=ps.map fun p=>(p.1,p.2.af ae ph):=by
 intro l;induction l with
 |nil=>intro ps h;simp only[iN,ah]at h;subst h;rfl
 | cons p l ih=>
   intro ps h;obtain⟨i,x⟩:=p;simp only[iN]at h;split at h;rename_i v l' h1 h2;simp only[ah]at h;subst h;simp only[kQ,ih h2,cZ h1 hG ht];cases h
theorem wI{v:Value}{l:ak}(h:sX v=some l):l.af ae ph=v:=by
 unfold sX at h;split at h<;>simp only[ah,reduceCtorEq]at h<;>subst h<;>rfl
theorem Cj:∀ {vs:List Value} {ls:List ak},vs.mapM sX=some ls->ls.map (ak.af ae ph)=vs:=by
 intro vs;induction vs with
 |nil=>intro ls h;simp at h;subst h;rfl
 | cons v vs ih=>
   intro ls h;rw[List.mapM_cons]at h;simp only[bind,Option.bind_eq_some_iff,pure,ah]at h;obtain⟨l,h1,J1,h2,rfl⟩:=h;simp[wI h1,ih h2]
theorem xW{v:V1}(h:qC P t=some v):(zeroValue t).run P w = .ok (v.af ae ph) w:=by
 unfold qC at h;cases hi:P.info? t with
 |none=>simp[hi]at h
 | some i=>
   cases hz:i.zero with
   |none=>simp[hi,hz]at h
   | some z=>
     simp only[hi,Option.bind_some,hz]at h;have:(zeroValue t).run P w = .ok z w:=by simp[zeroValue,typeInfo,hi,hz]
     rw[this];congr 1;split at h;rename_i cs e;simp only[bN]at h;obtain⟨ls,xH,rfl⟩:=h;simp only[ah]at e;subst e;simp[V1.af,Cj xH];rename_i u _ e;simp only[bN]at h;obtain⟨l,hl,rfl⟩:=h;simp only[ah]at e;subst e;exact(wI hl).symm;rename_i e;cases e
theorem gG(h:(P.info? t).isSome=true):(sizeOf t).run P w = .ok (P.cellsOf t) w:=by
 obtain⟨i,hi⟩:=At.1 h;simp[sizeOf,typeInfo,hi,Program.cellsOf]
theorem run_places:∀(fs:List Field),fs.all (fun f=>(P.info? f.type).isSome)=true->
   (fs.mapM fun(f:Field)=>(do pure (f.offset,<- sizeOf f.type):Sem (Nat×Nat))).run P w = .ok (fs.map fun(f:Field)=>(f.offset,P.cellsOf f.type)) w:=by
 intro fs;induction fs with
 |nil=>intro _;rfl
 | cons f fs ih=>
   intro h;simp only[List.all_cons,ao]at h;rw[List.mapM_cons];simp only[ff,gG h.1,fc,gk,ih h.2,kQ]
theorem run_build{parts:Array (Nat×Value)}{ps:List (Nat×V1)}{z r:List ak}{place:Nat->Option (Nat×Nat)}(hz:qC P t=some (.agg z))(hp:vH P t=some place)
   (hf:C0 place z ps=some r) (F4:parts.toList=ps.map fun p=>(p.1,p.2.af ae ph)):(Instr.build t parts).run P w = .ok (.agg (r.map (ak.af ae ph)).toArray) w:=by
 have hzr:=xW (ae:=ae) (ph:=ph) (w:=w) hz;have Xu:=Il (ae:=ae) (ph:=ph) place ps z r hf;unfold vH at hp;simp only[Instr.build,ff,hzr,fc,V1.fZ,V1.leaves];split at hp;rename_i fs hu;split at hp;rename_i cJ;simp only[ah]at hp;subst hp;simp only[run_underlying hu,fc,ff];have H':=run_places (P:=P) (w:=w) fs.toList cJ;have:(fs.mapM fun(f:Field)=>(do pure (f.offset,<- sizeOf f.type):Sem (Nat×Nat))).run P w = .ok (fs.map fun(f:Field)=>(f.offset,P.cellsOf f.type)) w:=by
   rw[Array.mapM_eq_mapM_toList];simp only[Sem.run_map,H',fc];congr 1;apply kS;simp
 rw[this];simp only[fc,F4];have e:(fun(x:Nat)=>(fs.map fun(f:Field)=>(f.offset,P.cellsOf f.type))[x]?)=fun(i:Nat)=>(fs[i]?).map fun(f:Field)=>(f.offset,P.cellsOf f.type):=by
   funext i;simp
 rw[e,Xu];rfl;cases hp;rename_i n e hu;split at hp;rename_i hi;simp only[ah]at hp;subst hp;simp only[run_underlying hu,fc,ff,gG hi,F4,Xu];rfl;cases hp;cases hp
theorem eX{a:Act}{b:Builtin}{Om:Array TypeId}{x:Value}(ho:o.op = .call {callee:=.builtin b,args,argTypes:=Om})
   (hb:∀ts ty cs vs,builtin b ts ty cs vs=(do pure (.value (<- (match b with| .len=>Builtin.len_ ts ty vs| .max=>Builtin.max_ ts ty vs| .min=>Builtin.min_ ts ty vs|_=>Builtin.append_ ts ty vs)))))
   (hr:(match b with| .len=>Builtin.len_ Om o.type (args.map a.eval)| .max=>Builtin.max_ Om o.type (args.map a.eval)| .min=>Builtin.min_ Om o.type (args.map a.eval)|_=>Builtin.append_ Om o.type (args.map a.eval)).run P w = .ok x w) :
   (execOp a.eval o).run P w = .ok (.value x) w:=by
 simp only[execOp,ho,resolve,ff,gk,fc,invoke,hb,hr]
theorem J3(h:args.toList=[x,y])(f:Operand->Value):args.map f = #[f x,f y]:=by
 apply kS;simp[h]
theorem C1{z:Operand}(h:args.toList=[x,y,z])(f:Operand->Value):args.map f = #[f x,f y,f z]:=by
 apply kS;simp[h]
theorem rm(h:args.toList=[x])(f:Operand->Value):args.map f = #[f x]:=by
 apply kS;simp[h]
theorem YT(a b:Int):(if b>a then b else a)=Max.max a b:=by omega
theorem YU(a b:Int):(if b<a then b else a)=Min.min a b:=by omega
theorem Gi{row sz:Nat}{i:IE}{j o:Nat}:(Ee row sz i j o).af ae ph=(ak.ep row sz i (j+o)).af ae ph:=by
 unfold Ee;split;simp only[ak.af,IE.af,pz,Nat.mul_one,iy,fR];rfl;rfl
theorem mF{c:Bool×Nat}:(rn c).af ae ph=mT ph c:=by
 unfold rn mT;split;simp only[ak.af,IE.af];cases(ph.v c.2).1 with
 |none=>rfl
 |some a=>simp[Addr.add_zero']
 rfl
theorem Ef{a:Act}(hG:G.af ae=true)(ht:gB ae ph st.tmps a.tmps):∀ {xs:List Operand} {dT:List (Bool×Nat)},sY st G xs=some dT->xs.map a.eval=dT.map (mT ph):=by
 intro xs;induction xs with
 |nil=>intro dT h;simp only[sY,ah]at h;subst h;rfl
 | cons x xs ih=>
   intro dT h;simp only[sY]at h;split at h;rename_i id l hx hl;simp only[ah]at h;subst h;have:=mF (ae:=ae) (ph:=ph) (c:=(false,id));simp only[kQ,ih hl,aG hx hG ht,<- this];rfl;rename_i row l hx hl;simp only[ah]at h;subst h;have:=mF (ae:=ae) (ph:=ph) (c:=(true,row));simp only[kQ,ih hl,aG hx hG ht,<- this];rfl;cases h
def J4(st:St)(G:BE)(ph:Ph):Op->Option Nat
 |.load _ x=>(bJ st G x).bind (pt ph)
 |_=>none
theorem J5{B:Nat}{wr:Bool}{ns:List BE}{sv:SV}{a:Act}{w':World}(h:YV P wr st G o.op=some (ns,sv))(hG:G.af ae=true)
   (hn:∀n∈ns,n.af ae=true) (ht:gB ae ph st.tmps a.tmps) (hm:kz B ae ph st.bl st.rows w) (hN:∀n∈st.bp,n.g.af ae=true->acr ae ph n/\0<n.aU.length) (hw:∀k,J4 st G ph o.op=some k->w'.heap[k]?=w.heap[k]?) :
   (execOp a.eval o).run P w' = .ok (.value (sv.af ae ph)) w':=by
 unfold YV at h;split at h
 ·
   rename_i x heq;simp only[bN,aD]at h;obtain⟨v,hv,rfl,rfl⟩:=h;simp only[execOp,heq,gk,sS hv hG ht]
 ·
   rename_i x heq;simp only[bN,aD]at h;obtain⟨v,hv,rfl,rfl⟩:=h;simp only[execOp,heq,gk,sS hv hG ht]
 ·
   rename_i c x y heq;split at h
   . rename_i p hp;split at h
     . rename_i bx Ub hx hy;simp only[ah,aD]at h;obtain⟨rfl,rfl⟩:=h;have ec:=aG hp hG ht;simp only[ak.af]at ec;have res:∀q:BE,q.af ae=(if p.af ae then bx.af ae else Ub.af ae)->(execOp a.eval o).run P w' = .ok (.value (.bool (q.af ae))) w':=by
         intro q hq;simp only[execOp,heq,ec,asBool,ff,gk,fc,hq];cases hpd:p.af ae with
         | true=>
           have:=aG hx (by rw[BE.cL];simp[BE.af,hG,hpd]) ht;simp[this,ak.af]
         | false=>
           have:=aG hy (by rw[BE.cL];simp[BE.af,BE.cL,hG,hpd]) ht;simp[this,ak.af]
       refine res _ ?_;split
       all_goals
         simp only[BE.cL,BE.af];cases p.af ae<;>simp
     cases h
   cases h
 ·
   rename_i t x y u heq;split at h;rename_i k e k' e' h1 h2;simp only[bN,aD]at h;obtain⟨⟨ru,l⟩,hb,rfl,rfl⟩:=h;have:=As (P:=P) (w:=w') (ph:=ph) t x y hb hn;simp only[execOp,heq,cZ h1 hG ht,cZ h2 hG ht,V1.af];simp only[ff]at this ⊢;rw[this];rfl;rename_i e e' _ h1 h2;split at h;rename_i r hq;simp only[ah,aD]at h;obtain⟨rfl,rfl⟩:=h;have:=(Ge (w':=w') hq hG hn hm).1;simp only[execOp,heq,cZ h1 hG ht,cZ h2 hG ht];simp only[ff]at this ⊢;rw[this];rfl;simp only[bN,aD]at h;obtain⟨p,hb,rfl,rfl⟩:=h;have:=(J0 (P:=P) (w:=w') (ae:=ae) (ph:=ph) hb x y).1;simp only[execOp,heq,cZ h1 hG ht,cZ h2 hG ht];simp only[ff]at this ⊢;rw[this];rfl;cases h
 ·
   rename_i t x y u heq;split at h;rename_i k e k' e' h1 h2;simp only[bN,aD]at h;obtain⟨⟨ru,l⟩,hb,rfl,rfl⟩:=h;have:=As (P:=P) (w:=w') (ph:=ph) t x y hb hn;simp only[execOp,heq,cZ h1 hG ht,cZ h2 hG ht,V1.af];simp only[ff]at this ⊢;rw[this];rfl;rename_i e e' _ h1 h2;split at h;rename_i r hq;simp only[ah,aD]at h;obtain⟨rfl,rfl⟩:=h;have:=(Ge (w':=w') hq hG hn hm).2;simp only[execOp,heq,cZ h1 hG ht,cZ h2 hG ht];simp only[ff]at this ⊢;rw[this];simp[SV.af,V1.af,ak.af,BE.cL,BE.af];simp only[bN,aD]at h;obtain⟨p,hb,rfl,rfl⟩:=h;have:=(J0 (P:=P) (w:=w') (ae:=ae) (ph:=ph) hb x y).2;simp only[execOp,heq,cZ h1 hG ht,cZ h2 hG ht];simp only[ff]at this ⊢;rw[this];simp[SV.af,V1.af,ak.af,BE.cL,BE.af];cases h
 ·
   rename_i op t x y u _ _ heq;split at h;rename_i l1 l2 h1 h2;simp only[bN,aD]at h;obtain⟨⟨ru,l⟩,hb,rfl,rfl⟩:=h;have:=As (P:=P) (w:=w') (ph:=ph) t x y hb hn;simp only[execOp,heq,aG h1 hG ht,aG h2 hG ht];simp only[ff]at this ⊢;rw[this];rfl;cases h
 ·
   rename_i t x heq;split at h;rename_i p hp;simp only[ah,aD]at h;obtain⟨rfl,rfl⟩:=h;simp only[execOp,heq,aG hp hG ht,ak.af,Op.unary,ff,gk,fc,SV.af,V1.af,BE.cL,BE.af];cases h
 ·
   rename_i t x heq;split at h;rename_i k e he;simp only[ah,aD]at h;obtain⟨rfl,rfl⟩:=h;have:=kA (ae:=ae) (ph:=ph) hn;simp only[execOp,heq,aG he hG ht,Op.unary,Op.intArith,SV.af,V1.af,this];simp[ak.af,Op.unary,Op.intArith,IE.af];cases h
 ·
   rename_i src dst x heq;split at h;rename_i k e d k' he hs hd;have hk:P.intKind dst=k':=by simp[Program.intKind,hd]
   have cY:∀n:Int,(convert src dst (.int k n)).run P w' = .ok (.int k' (k'.wrap n)) w':=fun n=>by
     have:=run_convert_int (P:=P) w' src dst k n (by rw[hs];rfl) (by rw[hk];exact hd);rw[hk]at this;exact this
   split at h;simp only[ah,aD]at h;obtain⟨rfl,rfl⟩:=h;have:=kA (ae:=ae) (ph:=ph) hn;simp only[SV.af,V1.af,this];simp only[execOp,heq,aG he hG ht,ak.af,ff,cY,fc,gk];simp only[ah,aD]at h;obtain⟨rfl,rfl⟩:=h;simp only[execOp,heq,aG he hG ht,ak.af,ff,cY,fc,gk,SV.af,V1.af,IE.cL,IE.af];cases h
 ·
   rename_i t x heq;split at h;rename_i l hl;simp only[bN,aD]at h;obtain⟨⟨ru,v⟩,hb,rfl,rfl⟩:=h;have:=CX (w':=w') hb hG hn hm (fun k hk=>hw k (by simp[J4,heq,hl,hk]));simp only[execOp,heq,aG hl hG ht,ff,this,fc,gk,SV.af];cases h
 ·
   rename_i s x f heq;have hfo:∀o' t',sZ P s f=some (o',t')->∀ad:Addr,(Instr.fieldAt s (.pointer (some ad)) f).run P w' = .ok (.pointer (some (ad.add o'))) w':=by
     intro o' t' ho ad;unfold sZ at ho;split at ho;rename_i fs hu;split at ho;rename_i fd UJ;split at ho;cases ho;rename_i da;simp only[ah,aD]at ho;obtain⟨rfl,rfl⟩:=ho;simp only[Instr.fieldAt,ff,run_underlying hu,fc,UJ,Instr.sureAddr,gk,fieldPlace,cA (P:=P) (w:=w') (t:=fd.type) (by omega)];simp[da];cases ho;cases ho
   split at h;rename_i id off o' t' hx ho;simp only[ah,aD]at h;obtain⟨rfl,rfl⟩:=h;simp only[execOp,heq,aG hx hG ht,ak.af,ff,hfo _ _ ho,fc,gk,SV.af,V1.af,jM];rename_i id off sz n z o' t' hx ho;simp only[ah,aD]at h;obtain⟨rfl,rfl⟩:=h;simp only[execOp,heq,aG hx hG ht,ak.af,ff,hfo _ _ ho,fc,gk,SV.af,V1.af,jM];rw[show off+(z.af ae).toNat*sz+o'=off+o'+(z.af ae).toNat*sz by omega]
   . rename_i row sz z j o' t' hx ho;split at h;rename_i r hr;split at h;rename_i hc;simp only[ah,aD]at h;obtain⟨rfl,rfl⟩:=h;obtain⟨bD,rfl⟩:=bn hr;have h0:=ck (hn _ (aZ ..));have h1:=fJ (hn _ (bI _ (aZ ..)));simp only[IE.af]at h0 h1;obtain⟨ad,cap,jV,_⟩:=jN (hm.row r bD (BE.df hc hG)) h0 h1;simp only[SV.af,V1.af,Gi];simp only[execOp,heq,aG hx hG ht,ak.af,jV,ff,hfo _ _ ho,fc,gk,iF,Nat.add_assoc];cases h;split at h
     . rename_i r hr;split at h
       . rename_i hc;simp only[ah,aD]at h;obtain⟨rfl,rfl⟩:=h;obtain⟨bD,rfl⟩:=dF hr;have h0:=ck (hn _ (aZ ..));have h1:=fJ (hn _ (bI _ (aZ ..)));simp only[IE.af]at h0 h1;obtain⟨⟨base,cap,jV,_,mv⟩,_⟩:=hN r bD (BE.df hc hG);cases base with
         |none=>have:=(mv rfl).1;omega
         |some ad=>
         have Ec:ph.v r.id=(some ad,(ae r.lv).list.length,cap):=by
           simp only[Ph.val,Value.slice.injEq]at jV;exact Prod.ext jV.1 (Prod.ext jV.2.1 jV.2.2)
         simp only[execOp,heq,aG hx hG ht,SV.af,V1.af,ak.af,Ec,ff,hfo _ _ ho,fc,gk,iF,Nat.add_assoc]
       cases h
     cases h
   cases h
 ·
   rename_i s x f heq;split at h;rename_i cs o' t' hx ho;simp only[bN,aD]at h;obtain⟨v,hv,rfl,rfl⟩:=h;unfold sZ at ho;split at ho;rename_i fs hu;split at ho;rename_i fd UJ;split at ho;cases ho;simp only[ah,aD]at ho;obtain⟨rfl,rfl⟩:=ho;simp only[execOp,heq,cZ hx hG ht,V1.af,Instr.field,ff,run_underlying hu,fc,UJ,asAgg,gk,xS hv,SV.af];cases ho;cases ho;cases h
 ·
   rename_i t x i heq;split at h
   . rename_i l k e hl hi;simp only[bN,aD]at h;obtain⟨⟨ru,l'⟩,hb,rfl,rfl⟩:=h;simp only[execOp,heq,aG hl hG ht,aG hi hG ht,ff,SV.af,V1.af];have:(Instr.indexAt t (l.af ae ph) ((ak.i k e).af ae ph)).run P w' = .ok (l'.af ae ph) w':=by
       unfold On at hb;split at hb;rename_i len el id off hu;have he:P.elem t=el:=by simp[Program.elem,hu]
       have hlen:P.arrayLen t=len:=by simp[Program.arrayLen,hu]
       split at hb;rename_i n;split at hb;rename_i hc;simp only[ah,aD]at hb;obtain⟨rfl,rfl⟩:=hb;simp only[ak.af,IE.af];rw[run_indexAt_array w' t _ k n (by rw[he,hlen];exact hu),he,hlen,if_pos ⟨hc.1,hc.2.1⟩];rw[gG hc.2.2.2];simp only[fc,jM];cases hb;rename_i da;split at hb;rename_i hc;simp only[ah,aD]at hb;obtain⟨rfl,rfl⟩:=hb;have h0:=ck (hn _ (aZ ..));have h1:=fJ (hn _ (bI _ (aZ ..)));simp only[IE.af]at h0 h1;simp only[ak.af];rw[run_indexAt_array w' t _ k _ (by rw[he,hlen];exact hu),he,hlen,if_pos ⟨h0,h1⟩];rw[gG hc.2];simp only[fc,jM];cases hb;rename_i len el row sz r j hu;have he:P.elem t=el:=by simp[Program.elem,hu]
       have hlen:P.arrayLen t=len:=by simp[Program.arrayLen,hu]
       split at hb;rename_i rq hrq;split at hb;rename_i hc;obtain⟨rfl,rfl,Uc,hc4,hc5,hc6,hc7⟩:=hc;simp only[ah,aD]at hb;obtain⟨rfl,rfl⟩:=hb;obtain⟨bD,rfl⟩:=bn hrq;have h0:=ck (hn _ (aZ ..));have h1:=fJ (hn _ (bI _ (aZ ..)));have h2:=fJ (hn _ (bI _ (bI _ (aZ ..))));simp only[IE.af]at h0 h1 h2;obtain⟨ad,cap,jV,_⟩:=jN (hm.row rq bD (BE.df hc7 hG)) h0 h2;simp only[ak.af,IE.af,jV];rw[run_indexAt_array w' t _ k _ (by rw[he,hlen];exact hu),he,hlen,if_pos ⟨h0,h1⟩];rw[gG hc5];simp only[fc,iF,hc4,Int.toNat_zero,Nat.zero_mul,fR,iy];split at hb;rename_i n;split at hb;rename_i rr C2;split at hb;rename_i hc;simp only[ah,aD]at hb;obtain⟨rfl,rfl⟩:=hb;simp only[ah]at C2;subst C2;obtain⟨bD,rfl⟩:=bn hrq;have h0:=ck (hn _ (aZ ..));have h1:=fJ (hn _ (bI _ (aZ ..)));simp only[IE.af]at h0 h1;obtain⟨ad,cap,jV,_⟩:=jN (hm.row rq bD (BE.df hc.2.2.2.2 hG)) h0 h1;simp only[ak.af,IE.af,jV];rw[run_indexAt_array w' t _ k n (by rw[he,hlen];exact hu),he,hlen,if_pos ⟨hc.1,hc.2.1⟩];rw[gG hc.2.2.2.1];simp only[fc,iF,Nat.add_assoc];cases hb;cases hb;cases hb;cases hb
       . rename_i el row hu;have he:P.elem t=el:=by simp[Program.elem,hu]
         split at hb;rename_i r hr;split at hb;rename_i hc;simp only[ao,aO]at hc;simp only[ah,aD]at hb;obtain⟨rfl,rfl⟩:=hb;obtain⟨bD,rfl⟩:=bn hr;have h0:=ck (hn _ (aZ ..));have h1:=fJ (hn _ (bI _ (aZ ..)));simp only[IE.af]at h0 h1;have bB:=hm.row r bD (BE.df hc.1 hG);obtain⟨ad,cap,jV,_⟩:=jN bB h0 h1;simp only[ak.af,IE.af,Ph.val,jV];rw[run_indexAt_slice w' t ad _ cap k _ (by rw[he];exact hu),he,if_pos ⟨h0,h1⟩];rw[cA (by rw[hc.2];exact bB.1),hc.2];simp only[fc,iy];cases hb;split at hb
         . rename_i r hr;split at hb
           . rename_i hc;simp only[ao,aO]at hc;simp only[ah,aD]at hb;obtain⟨rfl,rfl⟩:=hb;obtain⟨bD,rfl⟩:=dF hr;have h0:=ck (hn _ (aZ ..));have h1:=fJ (hn _ (bI _ (aZ ..)));simp only[IE.af]at h0 h1;obtain⟨⟨base,cap,jV,_,mv⟩,nF⟩:=hN r bD (BE.df hc.1 hG);cases base with
             |none=>have:=(mv rfl).1;omega
             |some ad=>
             have Ec:ph.v r.id=(some ad,(ae r.lv).list.length,cap):=by
               simp only[Ph.val,Value.slice.injEq]at jV;exact Prod.ext jV.1 (Prod.ext jV.2.1 jV.2.2)
             simp only[ak.af,IE.af,Ph.val,Ec];rw[run_indexAt_slice w' t ad _ cap k _ (by rw[he];exact hu),he,if_pos ⟨h0,h1⟩];rw[cA (by rw[hc.2];exact nF),hc.2];simp only[fc,iy]
           cases hb
         cases hb
       rename_i el row sz lo n hu;split at hb;rename_i r hr;split at hb;rename_i hc;simp only[ao,aO]at hc;simp only[ah,aD]at hb;obtain⟨rfl,rfl⟩:=hb;obtain⟨bD,rfl⟩:=bn hr;have h0:=ck (hn _ (aZ ..));have h1:=fJ (hn _ (bI _ (aZ ..)));have h2:=ck (hn _ (bI _ (bI _ (aZ ..))));have h3:=ck (hn _ (bI _ (bI _ (bI _ (aZ ..)))));simp only[IE.af]at h0 h1 h2 h3;exact Ok (hm.row r bD (BE.df hc.1.1 hG)) hu hc.1.2 hc.2 h2 h3 h0 h1;cases hb;cases hb;rename_i el row bs hu;split at hb;rename_i r hr;split at hb;rename_i hc;simp only[ao,aO]at hc;split at hb;rename_i m;split at hb;rename_i ur;simp only[bN,aD]at hb;obtain⟨b,_,rfl,rfl⟩:=hb;obtain⟨bD,rfl⟩:=bn hr;have h1:=fJ (hn _ (aZ ..));simp only[IE.af]at h1;exact Ol (hm.row r bD (BE.df hc.1.1 hG)) hu hc.1.2 hc.2 ur h1;cases hb;cases hb;cases hb;cases hb;rename_i el id n sz hu;split at hb;rename_i hc;simp only[ao,aO]at hc;split at hb;rename_i m;split at hb;rename_i ur;simp only[ah,aD]at hb;obtain⟨rfl,rfl⟩:=hb;simp only[ak.af,IE.af];rw[qz hu ur.1 ur.2 hc.2,hc.1,jM,fR];cases hb;simp only[ah,aD]at hb;obtain⟨rfl,rfl⟩:=hb;have h0:=ck (hn _ (aZ ..));have h1:=fJ (hn _ (bI _ (aZ ..)));simp only[IE.af]at h0 h1;simp only[ak.af];rw[qz hu h0 h1 hc.2,hc.1,jM];cases hb;cases hb
     rw[this];rfl
   cases h
 ·
   rename_i t x i heq;split at h;rename_i cs k n len el hx hi hu;split at h;rename_i hc;simp only[bN,aD]at h;obtain⟨v,hv,rfl,rfl⟩:=h;obtain⟨qx,_⟩:=ox hv;simp only[execOp,heq,cZ hx hG ht,aG hi hG ht,V1.af,ak.af,IE.af,Instr.index,asIntOf,ff,gk,fc,run_underlying hu];simp only[hc,and_self,if_true,ff,cA qx.2.1,fc,xS hv,gk,SV.af];cases h;rename_i cs k xi len el da hx hi hu;split at h;rename_i hc;simp only[ao,aO,nJ]at hc;obtain⟨⟨⟨acv,hna⟩,pc⟩,hlen⟩:=hc;simp only[bN,aD]at h;obtain⟨l,hl,rfl,rfl⟩:=h;have h0:=ck (hn _ (aZ ..));have h1:=fJ (hn _ (bI _ (aZ ..)));simp only[IE.af]at h0 h1;obtain⟨l',wH,he⟩:=xT (ae:=ae) (ph:=ph) hl h0 h1;rw[Nat.mul_one,fR]at wH;simp only[execOp,heq,cZ hx hG ht,aG hi hG ht,V1.af,ak.af,IE.af,Instr.index,asIntOf,ff,gk,fc,run_underlying hu];have hp:sT P el cs (xi.af ae).toNat=some (.one l'):=by
     simp[sT,acv,pc,hna,wH]
   have:=xS (ae:=ae) (ph:=ph) (w:=w') hp;simp only[h0,h1,and_self,if_true,ff,cA (show 0<P.cellsOf el by omega),fc,pc,Nat.mul_one,this,gk,SV.af,V1.af,he];cases h;rename_i bs k n hx hi hu;split at h;rename_i iO;simp only[bN,aD]at h;obtain⟨b,hb,rfl,rfl⟩:=h;simp only[execOp,heq,cZ hx hG ht,aG hi hG ht,V1.af,ak.af,IE.af,Instr.index,asIntOf,ff,gk,fc,run_underlying hu];simp only[iO,if_true,LJ,hb,gk,fc,SV.af,V1.af,ak.af,IE.af];cases h;cases h
 ·
   rename_i x heq;split at h;rename_i id off hx;simp only[ah,aD]at h;obtain⟨rfl,rfl⟩:=h;simp only[execOp,heq,aG hx hG ht,ak.af,gk,SV.af,V1.af];rename_i row sz i j hx;split at h;rename_i r hr;split at h;rename_i hc;simp only[ah,aD]at h;obtain⟨rfl,rfl⟩:=h;have h1:=fJ (hn _ (aZ ..));simp only[IE.af]at h1;obtain⟨bD,rfl⟩:=bn hr;obtain⟨ad,cap,jV,_⟩:=jN (hm.row r bD (BE.df hc hG)) (i:=0) (Int.le_refl _) h1;simp only[execOp,heq,aG hx hG ht,ak.af,jV,gk,SV.af,V1.af];cases h;cases h;cases h
 ·
   rename_i g first captured heq
   split at h;rename_i hf;simp only[bN,aD]at h;obtain⟨dT,hc,rfl,rfl⟩:=h;have e:=Ef hG ht hc;have e1:first.map a.eval = #[]:=by apply kS;simp[hf]
   have e2:captured.map a.eval=(dT.map (mT ph)).toArray:=by apply kS;simpa using e
   simp only[execOp,heq,Instr.makeFunc,e1,e2,ff,gk,fc,SV.af,V1.af,ak.af];rename_i x hf;split at h;rename_i Od;have e1:first.map a.eval = #[a.eval x]:=by apply kS;simp[hf]
   have e2:captured.map a.eval = #[]:=by apply kS;simp[Od]
   split at h;rename_i l hl;simp only[bN,aD]at h;obtain⟨l0,hd,rfl,rfl⟩:=h;have e3:=cZ hl hG ht;rw[ak.down_up hd]at e3;simp only[V1.af]at e3;rw[dK.D4]at e3;simp only[execOp,heq,Instr.makeFunc,e1,e2,e3,ff,gk,fc,SV.af,V1.af,ak.af];simp;rename_i ls hl;simp only[bN,aD]at h;obtain⟨l0,hd,rfl,rfl⟩:=h;have e3:=cZ hl hG ht;simp only[V1.af,LK (ae:=ae) (ph:=ph) hd]at e3;simp only[execOp,heq,Instr.makeFunc,e1,e2,e3,ff,gk,fc,SV.af,V1.af,ak.af];simp;cases h;cases h;cases h
 ·
   rename_i t x low high cap heq;split at h;rename_i el row hu hx;split at h;rename_i r hr;split at h;rename_i hc;simp only[ao,aO]at hc;obtain⟨⟨⟨hg,pc⟩,hre⟩,ano⟩:=hc;obtain⟨bD,rfl⟩:=bn hr;have bB:=hm.row r bD (BE.df hg hG);obtain⟨base,cp,hv,⟨_,hlc⟩,mv,_⟩:=bB.reads;have wC:ph.v r.id=(base,(ae r.lv).list.length,cp):=by
     simp only[Ph.val,Value.slice.injEq]at hv;exact Prod.ext hv.1 (Prod.ext hv.2.1 hv.2.2)
   have nF:0<P.cellsOf el:=by rw[pc];exact bB.1
   split at h;rename_i l;split at h;rename_i kl lo wD;simp only[ah,aD]at h;obtain⟨rfl,rfl⟩:=h;have h0:=ck (hn _ (aZ ..));have h1:=ck (hn _ (bI _ (aZ ..)));simp only[IE.af]at h0 h1;simp only[execOp,heq,aG hx hG ht,s5,Option.map_none,aG wD hG ht,SV.af,V1.af,ff];have:=CZ (P:=P) (w:=w') (t:=t) (e:=el) hu (base:=base) (len:=(ae r.lv).list.length) (cap:=cp) (lo:=lo.af ae) (hi:=((ae r.lv).list.length:Int)) (kl:=kl) none rfl (by simp) h0 h1 (by omega) nF;simp only[ak.af,Ph.val,wC]at this ⊢;rw[this];simp only[fc,gk,IE.cL,IE.af,pc];cases h;rename_i l hh;split at h;rename_i kl lo kh hi wD UK;simp only[ah,aD]at h;obtain⟨rfl,rfl⟩:=h;have h0:=ck (hn _ (aZ ..));have h1:=ck (hn _ (bI _ (aZ ..)));have h2:=ck (hn _ (bI _ (bI _ (aZ ..))));simp only[IE.af]at h0 h1 h2;simp only[execOp,heq,aG hx hG ht,s5,Option.map_none,aG wD hG ht,aG UK hG ht,SV.af,V1.af,ff];have:=CZ (P:=P) (w:=w') (t:=t) (e:=el) hu (base:=base) (len:=(ae r.lv).list.length) (cap:=cp) (lo:=lo.af ae) (hi:=hi.af ae) (kl:=kl) (some (.int kh (hi.af ae))) rfl (by intro v hv;simp at hv;exact⟨kh,hv.symm⟩) h0 h1 (by omega) nF;simp only[ak.af,Ph.val,wC]at this ⊢;rw[this];simp only[fc,gk,IE.cL,IE.af,pc];cases h;rename_i hh mm;split at h;rename_i kh hi km mx UK Ud;simp only[ah,aD]at h;obtain⟨rfl,rfl⟩:=h;have h0:=hn _ (aZ ..);have h1:=hn _ (bI _ (aZ ..));rw[BE.cL]at h0 h1;have h0:hi.af ae=((ae r.lv).list.length:Int):=jY h0;have h1:mx.af ae=((ae r.lv).list.length:Int):=jY h1;simp only[execOp,heq,aG hx hG ht,s5,Option.map_none,aG UK hG ht,aG Ud hG ht,SV.af,V1.af,ff];have:=Ik (P:=P) (w:=w') (t:=t) (e:=el) hu (base:=base) (len:=(ae r.lv).list.length) (cap:=cp) (kh:=kh) (km:=km) hlc nF;simp only[ak.af,Ph.val,wC,h0,h1]at this ⊢;rw[this];simp only[fc,gk];cases h;cases h;cases h;cases h;rename_i bs hu hx;split at h;rename_i l;split at h;rename_i kl lo wD;split at h;rename_i hc;simp only[ah,aD]at h;obtain⟨rfl,rfl⟩:=h;simp only[execOp,heq,aG hx hG ht,s5,Option.map_none,aG wD hG ht,SV.af,V1.af,ak.af,IE.af,ff];rw[Gh hu hc.1 hc.2];rfl;cases h;cases h;rename_i hh;split at h;rename_i kh hi UK;split at h;rename_i hc;simp only[ah,aD]at h;obtain⟨rfl,rfl⟩:=h;simp only[execOp,heq,aG hx hG ht,s5,Option.map_none,aG UK hG ht,SV.af,V1.af,ak.af,IE.af,ff];rw[LL hu hc.1 hc.2];rfl;cases h;cases h;cases h;cases h
 ·
   rename_i t x heq;split at h;rename_i len el hu;split at h;rename_i nF;split at h;rename_i row hx;split at h;rename_i r hr;split at h;rename_i hc;simp only[ao,aO]at hc;simp only[ah,aD]at h;obtain⟨rfl,rfl⟩:=h;obtain⟨bD,rfl⟩:=bn hr;have h0:=ck (hn _ (aZ ..));simp only[IE.af]at h0;obtain⟨ad,cp,jV,_⟩:=jN (hm.row r bD (BE.df hc.1 hG)) (i:=0) (Int.le_refl _) (by omega);simp only[execOp,heq,aG hx hG ht,ak.af,Ph.val,jV,ff,run_arrayAt w' t el len _ _ _ hu (show len<=(ae r.lv).list.length by omega),fc,gk,SV.af,V1.af,IE.af];simp[Addr.add_zero'];cases h;cases h;rename_i row lo n hx;split at h;rename_i r hr;split at h;rename_i hc;simp only[ao,aO]at hc;simp only[ah,aD]at h;obtain⟨rfl,rfl⟩:=h;obtain⟨bD,rfl⟩:=bn hr;have h0:=ck (hn _ (aZ ..));have h1:=ck (hn _ (bI _ (aZ ..)));have h2:=ck (hn _ (bI _ (bI _ (aZ ..))));simp only[IE.af]at h0 h1 h2;obtain⟨ad,cp,jV,hd⟩:=Oj (sz:=1) (hm.row r bD (BE.df hc.1 hG)) h1 (by omega) h2;simp only[execOp,heq,aG hx hG ht,hd,ff,run_arrayAt w' t el len _ _ _ hu (show len<=(n.af ae).toNat by omega),fc,gk,SV.af,V1.af];simp only[ak.af,jV,iy];cases h;cases h;cases h;cases h;cases h
 ·
   rename_i x n heq;split at h;rename_i xs hx;simp only[bN,aD]at h;obtain⟨v,hv,rfl,rfl⟩:=h;simp only[execOp,heq,sS hx hG ht,SV.af,Instr.extract,List.getElem?_toArray,iS,hv,s5,ff,gk,fc];cases h
 ·
   rename_i t parts heq;split at h;rename_i z place ps hz hp F4;simp only[bN,aD]at h;obtain⟨cs,jc,rfl,rfl⟩:=h;have e:=qe hG ht F4;have:=run_build (ae:=ae) (ph:=ph) (w:=w') (parts:=parts.map fun(i,x)=>(i,a.eval x)) hz hp jc (by rw[Array.toList_map];exact e);simp only[execOp,heq,ff,this,fc,gk,SV.af,V1.af];cases h
 ·
   rename_i args Om heq;split at h;rename_i x el fF LH;have YW:∃t,Om[0]?=some t/\P.underlying t=some (.slice el):=by
     simp only[Option.bind_eq_some_iff]at LH;exact LH
   obtain⟨t,ht0,htu⟩:=YW;have he:P.elem t=el:=by simp[Program.elem,htu]
   have cY:∀b n c,(Builtin.len_ Om o.type #[.slice b n c]).run P w' = .ok (goInt n) w':=fun b n c=>by
     simp[Builtin.len_,ht0,run_underlying htu]
   split at h;rename_i row bB;split at h;rename_i r hr;split at h;rename_i hg;simp only[ah,aD]at h;obtain⟨rfl,rfl⟩:=h;obtain⟨bD,rfl⟩:=bn hr;obtain⟨base,cap,hv,_⟩:=(hm.row r bD (BE.df hg hG)).reads;refine eX heq (fun _ _ _ _=>rfl) ?_;simp only[rm fF,aG bB hG ht,ak.af,hv,cY];rfl;cases h;split at h;rename_i r hr;split at h;rename_i hg;simp only[ah,aD]at h;obtain⟨rfl,rfl⟩:=h;obtain⟨bD,rfl⟩:=dF hr;obtain⟨⟨base,cap,hv,_⟩,_⟩:=hN r bD (BE.df hg hG);refine eX heq (fun _ _ _ _=>rfl) ?_;simp only[rm fF,aG bB hG ht,ak.af,hv,cY];rfl;cases h;cases h;rename_i vI;simp only[ah,aD]at h;obtain⟨rfl,rfl⟩:=h;refine eX heq (fun _ _ _ _=>rfl) ?_;simp only[rm fF,aG vI hG ht,ak.af,cY];rfl;rename_i row szz lo n bB;split at h;split at h;simp only[ah,aD]at h;obtain⟨rfl,rfl⟩:=h;have h0:=ck (hn _ (aZ ..));simp only[IE.af]at h0;refine eX heq (fun _ _ _ _=>rfl) ?_;simp only[rm fF,aG bB hG ht,ak.af,cY,SV.af,V1.af,goInt];rw[Int.toNat_of_nonneg h0];cases h;cases h;rename_i id n szz bB;simp only[ah,aD]at h;obtain⟨rfl,rfl⟩:=h;refine eX heq (fun _ _ _ _=>rfl) ?_;simp only[rm fF,aG bB hG ht,ak.af,cY];rfl;rename_i row bs bB;split at h;rename_i r hr;split at h;rename_i hg;simp only[ah,aD]at h;obtain⟨rfl,rfl⟩:=h;have h0:=hn _ (aZ ..);rw[BE.cL]at h0;have h0:((ae r.lv).list.length:Int)=(bs.length:Int):=jY h0;obtain⟨bD,rfl⟩:=bn hr;obtain⟨base,cap,hv,_⟩:=(hm.row r bD (BE.df hg hG)).reads;refine eX heq (fun _ _ _ _=>rfl) ?_;simp only[rm fF,aG bB hG ht,ak.af,hv,cY,SV.af,V1.af,IE.af,goInt,h0];cases h;cases h;cases h;rename_i x fF LH;have YW:∃t,Om[0]?=some t/\P.underlying t=some .string:=by
     simp only[Option.bind_eq_some_iff]at LH;exact LH
   obtain⟨t,ht0,htu⟩:=YW;split at h;rename_i bs hx;simp only[ah,aD]at h;obtain⟨rfl,rfl⟩:=h;refine eX heq (fun _ _ _ _=>rfl) ?_;simp[rm fF,aG hx hG ht,ak.af,Builtin.len_,ht0,run_underlying htu,vG,SV.af,V1.af,IE.af,goInt];cases h;cases h
 ·
   rename_i args Om heq;split at h;rename_i x y fF;split at h;rename_i k e1 k' e2 hx hy;split at h;rename_i hk;subst hk;simp only[ah,aD]at h;obtain⟨rfl,rfl⟩:=h;refine eX heq (fun _ _ _ _=>rfl) ?_;simp only[J3 fF,aG hx hG ht,aG hy hG ht,ak.af,run_max_int2,YT];simp[SV.af,V1.af,ak.af,IE.cL,IE.af];cases h;cases h;rename_i x y z fF;split at h;rename_i k e1 k' e2 k'' e3 hx hy hz;split at h;rename_i hk;obtain⟨rfl,rfl⟩:=hk;simp only[ah,aD]at h;obtain⟨rfl,rfl⟩:=h;refine eX heq (fun _ _ _ _=>rfl) ?_;simp only[C1 fF,aG hx hG ht,aG hy hG ht,aG hz hG ht,ak.af];simp[Builtin.max_,Builtin.max2,List.foldlM,SV.af,V1.af,ak.af,IE.cL,IE.af];omega;cases h;cases h;cases h
 ·
   rename_i args Om heq;split at h;rename_i x y fF;split at h;rename_i k e1 k' e2 hx hy;split at h;rename_i hk;subst hk;simp only[ah,aD]at h;obtain⟨rfl,rfl⟩:=h;refine eX heq (fun _ _ _ _=>rfl) ?_;simp only[J3 fF,aG hx hG ht,aG hy hG ht,ak.af,run_min_int2,YU];simp[SV.af,V1.af,ak.af,IE.cL,IE.af];cases h;cases h;rename_i x y z fF;split at h;rename_i k e1 k' e2 k'' e3 hx hy hz;split at h;rename_i hk;obtain⟨rfl,rfl⟩:=hk;simp only[ah,aD]at h;obtain⟨rfl,rfl⟩:=h;refine eX heq (fun _ _ _ _=>rfl) ?_;simp only[C1 fF,aG hx hG ht,aG hy hG ht,aG hz hG ht,ak.af];simp[Builtin.min_,Builtin.min2,List.foldlM,SV.af,V1.af,ak.af,IE.cL,IE.af];omega;cases h;cases h;cases h
 cases h
end
end Go.Sx
