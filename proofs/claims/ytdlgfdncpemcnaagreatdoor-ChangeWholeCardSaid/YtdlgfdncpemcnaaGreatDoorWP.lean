import Derived.Test.YtdlgfdncpemcnaaGreatDoorW1
set_option maxRecDepth 100000
set_option linter.all false
namespace Go.Cb.CodeA
open Go Go.Cb Go.Cb.G
def k0:AV:=(.ptr 2 0)
def k1:AV:=(.int .u8 0)
def k2:AV:=(.int .i64 0)
def k3:AV:=(.str [])
def k4:AV:=(.list false [])
def k5:AV:=(.bool true)
def k6:AV:=(.int .u8 1)
def k7 (v:Lt):AV:=(.int .i64 v.m)
def k8 (v:Lt):AV:=(.agg [k6,(k7 v),k3,k4,k4])
def k9:AV:=(.int .u8 6)
def k10:AV:=(.str [105,100])
def k11:AV:=(.int .u8 2)
def k12 (v:Lt):AV:=(.str v.X)
def k13:AV:=(.str [73,110,116])
def k14:AV:=(.bool false)
def k15:AV:=(.agg [k13,k4,k14])
def k16:AV:=(.list true [])
def k17:AV:=(.box [k13,k4,k14])
def k18:AV:=(.str [73,68])
def k19:AV:=(.str [110])
def k20:AV:=(.list false [[k10,k18,k4,k5,k14,k1,k2,k3,k4,k4],[k19,k13,k4,k14,k14,k1,k2,k3,k4,k4]])
def k21:AV:=(.list false [[k10],[k19]])
def k22 (v:Lt):AV:=(.list false [[k11,k2,(k12 v),k4,k4],[k6,(k7 v),k3,k4,k4]])
def k23 (v:Lt):AV:=(.agg [k9,k2,k3,k21,(k22 v)])
def k24:AV:=(.ptr 125 0)
def k25:AV:=(.int .i64 2)
def k26:AV:=(.int .i64 1)
def k27:AV:=(.str [97])
def k28:AV:=(.str [99,114,101,97,116,101,80,101,114,115,111,110])
def k29:AV:=(.str [110,101,119])
def k30:AV:=(.str [105,110,112,117,116])
def k31:AV:=(.str [110,97,109,101])
def k32:AV:=(.str [97,103,101])
def k33:AV:=(.list false [[k31],[k32]])
def k34:AV:=(.int .u8 7)
def k35:AV:=(.list false [[k11,k2,k19,k4,k4],[k34,k2,k19,k4,k4]])
def k36:AV:=(.list false [[k10,k11,k2,k29,k4,k4],[k30,k9,k2,k3,k33,k35]])
def k37:AV:=(.list false [[k6,k3,k32,k3,k4,k4,k4]])
def k38:AV:=(.sl 43 0 1 4)
def k39:AV:=(.str [77,117,116,97,116,105,111,110])
def k40:AV:=(.ptr 128 0)
def k41:AV:=(.sl 133 0 1 7)
def k42:AV:=(.tuple [])
def k43:AV:=(.str [98])
def k44:AV:=(.str [117,112,100,97,116,101,80,101,114,115,111,110])
def k45:AV:=(.list false [[k32],[k31]])
def k46:AV:=(.str [109])
def k47:AV:=(.list false [[k34,k2,k19,k4,k4],[k11,k2,k46,k4,k4]])
def k48:AV:=(.list false [[k10,k34,k2,k10,k4,k4],[k30,k9,k2,k3,k45,k47]])
def k49:AV:=(.list false [[k6,k3,k31,k3,k4,k4,k4]])
def k50:AV:=(.sl 138 0 1 7)
def k51:AV:=(.str [99])
def k52:AV:=(.str [100,101,108,101,116,101,80,101,114,115,111,110])
def k53:AV:=(.str [110,111,98,111,100,121])
def k54:AV:=(.list false [[k10,k11,k2,k53,k4,k4]])
def k55:AV:=(.list false [[k6,k27,k28,k3,k36,k4,k37],[k6,k43,k44,k3,k48,k4,k49],[k6,k51,k52,k3,k54,k4,k49]])
def k56:AV:=(.int .i64 3)
def k57:AV:=(.agg [k38,.nils])
def k58:AV:=(.box [k38,.nils])
def k59:AV:=(.list true [[k10],[k30]])
def k60 (v:Lt):AV:=(.list false [[k11,k2,k19,k4,k4],[k6,(k7 v),k3,k4,k4]])
def k61:AV:=(.list true [[k31],[k32]])
def k62 (v:Lt):AV:=(.agg [(.sl 31 0 v.n 4)])
def k63:AV:=(.str [80,101,114,115,111,110])
def k64 (v:Lt):AV:=(.list false [[k6,(k7 v),k3,k4,k4],[k11,k2,k19,k4,k4]])
def k65 (v:Lt):AV:=(.agg [k63,k29,k45,(k64 v)])
def k66:AV:=(.list true [[k31]])
def k67 (v:Lt):AV:=(.sl 156 0 (.succ v.n) 4)
def k68 (v:Lt):AV:=(.agg [(k67 v)])
def k69:AV:=(.str [80,101,114,115,111,110,73,110])
def k70:AV:=(.list false [[k10,k4,k18,k4,k5,k14,k1,k2,k3,k4,k4],[k30,k4,k69,k4,k5,k14,k1,k2,k3,k4,k4]])
def k71:AV:=(.list false [[k10],[k30]])
def k72 (v:Lt):AV:=(.list false [[k11,k2,k29,k4,k4],[k9,k2,k3,k33,(k60 v)]])
def k73:AV:=(.ptr 126 0)
def k74:AV:=(.str [99,114,101,97,116,101])
def k75:AV:=(.box [k3,k3,k4,k4])
def k76:AV:=(.str [83,116,114,105,110,103])
def k77:AV:=(.ptr 160 0)
def k78:AV:=(.sl 164 0 1 2)
def k79:AV:=(.ptr 161 0)
def k80:AV:=(.ptr 157 0)
def k81:AV:=(.agg [k32,(.sl 165 0 1 7)])
def k82:AV:=(.list false [[k27],[k32]])
def k83:AV:=(.box [k32,(.sl 165 0 1 7)])
def k84:AV:=(.list false [[k27]])
def k85:AV:=(.list true [[k27],[k32]])
def k86:AV:=(.list false [[k32]])
def k87 (v:Lt):AV:=(.list false [[k6,(k7 v),k3,k4,k4]])
def k88 (v:Lt):AV:=(.agg [k9,k2,k3,k86,(k87 v)])
def k89:AV:=(.agg [k27,k41])
def k90:AV:=(.box [k27,k41])
def k91 (v:Lt):AV:=(.agg [(k67 v),k5,k4])
def k92 (v:Lt):AV:=(.list false [[k11,k2,k46,k4,k4],[k6,(k7 v),k3,k4,k4]])
def k93 (v:Lt):AV:=(.list false v.K)
def k94 (v:Lt):AV:=(.list false v.L)
def k95 (v:Lt):AV:=(.agg [k63,(k12 v),(k93 v),(k94 v)])
def k96:AV:=(.agg [k11,k2,k46,k4,k4])
def k97 (v:Lt):AV:=(.agg [k63,(k12 v),(.list false v.K2),(.list false v.L2)])
def k98 (v:Lt):AV:=(.sl 179 0 (.succ v.n) 4)
def k99 (v:Lt):AV:=(.agg [(k98 v)])
def e12 (v:Lt):AV:=(.list false [[k11,k2,(k12 v),k4,k4],[k9,k2,k3,k33,(k92 v)]])
def a4a:AV:=(.ptr 183 0)
def a83:AV:=(.sl 187 0 1 2)
def a4i:AV:=(.int .i64 4)
def a3K:AV:=(.ptr 180 0)
def e6d:AV:=(.agg [k31,(.sl 188 0 1 7)])
def f2z:AV:=(.list false [[k43],[k31]])
def f2j:AV:=(.box [k31,(.sl 188 0 1 7)])
def a3A:AV:=(.list false [[k43]])
def a9L:AV:=(.list false [[k31]])
def b0c:AV:=(.list false [[k11,k2,k46,k4,k4]])
def b9M:AV:=(.agg [k9,k2,k3,a9L,b0c])
def a5U:AV:=(.agg [k43,k50])
def a9J:AV:=(.box [k43,k50])
def e7T (v:Lt):AV:=(.agg [(k98 v),k5,k4])
def f4l:AV:=(.list true [[k27],[k43]])
def f0B:AV:=(.list false [[k10,k4,k18,k4,k5,k14,k1,k2,k3,k4,k4]])
def f3i:AV:=(.list false [[k11,k2,k53,k4,k4]])
def H0:AV:=(.int .i64 6)
def a6G (v:Lt):AV:=(.box [(.sl 31 0 v.n 4)])
def a6P:AV:=(.box [.nils])
def H4:AV:=(.ptr 127 0)
def d8t:AV:=(.list true [[k27],[k43],[k51]])
def a7J:AV:=(.list false [[k27],[k43],[k51]])
def e0t (v:Lt):AV:=(.list false [[k9,k2,k3,k86,(k87 v)],[k9,k2,k3,a9L,b0c],[k1,k2,k3,k4,k4]])
def b3V (v:Lt):AV:=(.list false [[k9,k2,k3,k86,(k87 v)],[k1,k2,k3,k4,k4],[k1,k2,k3,k4,k4]])
def r9:AV:=(.int .u8 4)
def Y3:AV:=(.str [58])
def a7B:AV:=(.str [123])
def a6L:AV:=(.str [125])
def E5:AV:=(.ptr 43 0)
def I5:AV:=(.sl 42 0 1 4)
def M3:AV:=(.ptr 34 0)
def a3M:AV:=(.ptr 124 0)
def a3y:AV:=(.sl 132 0 1 7)
def a3o:AV:=(.sl 137 0 1 7)
def a5B:AV:=(.agg [I5,.nils])
def b46:AV:=(.box [I5,.nils])
def Y5:AV:=(.sl 154 0 1 4)
def a1s:AV:=(.ptr 158 0)
def a9f:AV:=(.sl 162 0 1 2)
def S5:AV:=(.ptr 155 0)
def b0G:AV:=(.agg [k32,(.sl 163 0 1 7)])
def b4T:AV:=(.box [k32,(.sl 163 0 1 7)])
def a5J:AV:=(.agg [k27,a3y])
def a8Z:AV:=(.box [k27,a3y])
def e5S:AV:=(.agg [Y5,k5,k4])
def a7l:AV:=(.agg [.nils])
def p0 (v:Lt):AV:=(.agg [k0,k1,k2,k3,k4,k4,k5])
def p1 (v:Lt):AV:=(k8 v)
def p2 (v:Lt):Obj:=.cells [k9,k2,k3,(.list true [[k10]]),(.list true [[k11,k2,(k12 v),k4,k4]])]
def p3 (v:Lt):St:=((T_m v.C)++[.cells [k3],(p2 v)])
def p4 (v:Lt):AV:=(.tuple [(k8 v),k5,k2])
abbrev Q0 (v:Lt):Prop:=Ev e8 224 [(p0 v),k13,(p1 v)] (p3 v) (p4 v) (p3 v)
def p5 (v:Lt):List AV:=[(p0 v),k15,(p1 v)]
def p6 (v:Lt):AV:=(.box [k0,k1,k2,k3,k4,k4,k5])
def p7 (v:Lt):AV:=(.box [k6,(k7 v),k3,k4,k4])
def p8 (v:Lt):AV:=(.box [k1,k2,k3,k16,k16])
def p9 (v:Lt):List AV:=[(p0 v),k15,(p1 v),(p6 v),k17,(p7 v),(p8 v),k14,k2,.undef,.undef]
theorem t1 (v:Lt) (j:MOK v.m) (l:v.n≤12) (i:Q0 v):Ev e8 169 (p5 v) (p3 v) (p4 v) (p3 v):=wF (fn:=a169) (wS 4 (p9 v) (p3 v) (XC.seq (wC 4 (((p9 v).set 6 (p7 v)).set 7 k5) (p3 v) i) (wR (((p9 v).set 6 (p7 v)).set 7 k5) (p3 v))))
def p10 (v:Lt):List AV:=[k0,k15,(p1 v)]
def p11 (v:Lt):List AV:=[k0,k15,(p1 v),k17,(p7 v),(p8 v),k2,(p6 v),.undef,.undef]
def p12 (v:Lt):AV:=(.tuple [(k8 v),k2])
theorem t2 (v:Lt) (j:MOK v.m) (l:v.n≤12) (i:Q0 v):Ev e8 107 (p10 v) (p3 v) (p12 v) (p3 v):=wF (fn:=a107) (wS 2 (p11 v) (p3 v) (XC.seq (wC 3 (((p11 v).set 8 (p7 v)).set 9 k2) (p3 v) (t1 v j l i)) (wR ((((p11 v).set 8 (p7 v)).set 9 k2).set 5 (p7 v)) (p3 v))))
def p13 (v:Lt):AV:=k20
def p14 (v:Lt):AV:=(k23 v)
def p15 (v:Lt):St:=((T_m v.C)++[.cells [k3]])
def p16 (v:Lt):AV:=(.box [k9,k2,k3,k21,(k22 v)])
def p17 (v:Lt):List AV:=[k0,(p13 v),(p14 v),(p16 v),(p8 v),k3,k2,k24,.undef,.undef,.undef,.undef,.undef,.undef,.undef]
def p18 (v:Lt):Obj:=.cells [k9,k2,k3,k16,k16]
def p19 (v:Lt):St:=((p15 v)++[(p18 v)])
def p20 (v:Lt):List AV:=((((p17 v).set 12 (p13 v)).set 13 k25).set 14 k2)
def p21 (v:Lt):AV:=(.box [k10,k18,k4,k5,k14,k1,k2,k3,k4,k4])
def p22 (v:Lt):AV:=(.box [k11,k2,(k12 v),k4,k4])
def p23 (v:Lt):List AV:=[k0,(p13 v),(p14 v),(p16 v),(p8 v),k3,k2,k24,(p21 v),(p22 v),k5,k2,(p13 v),k25,k26]
def p24 (v:Lt):AV:=(.box [k19,k13,k4,k14,k14,k1,k2,k3,k4,k4])
def p25 (v:Lt):Obj:=.cells [k9,k2,k3,(.list true [[k10],[k19]]),(.list true [[k11,k2,(k12 v),k4,k4],[k6,(k7 v),k3,k4,k4]])]
def p26 (v:Lt):St:=((p15 v)++[(p25 v)])
def p27 (v:Lt):List AV:=((((p23 v).set 8 (p24 v)).set 9 (p7 v)).set 14 k25)
def p28 (v:Lt):AV:=(.tuple [(k23 v),k3,k2])
theorem t3 (v:Lt) (j:MOK v.m) (l:v.n≤12) (i:Q0 v):Ev e8 43 [k0,(p13 v),(p14 v)] (p15 v) (p28 v) (p26 v):=wF (fn:=a43) (wS 2 (p17 v) (p19 v) (XC.seq (wS 1 (p20 v) (p19 v) (wB1 (XC.loop (wY 1 (p23 v) (p3 v) (LX.step (wS 1 (p23 v) (p3 v) (XC.seq (wB0 (wS 3 (((p23 v).set 8 (p24 v)).set 9 (p7 v)) (p3 v) (XC.seq (wB0 (wU true (wC 4 (((p23 v).set 8 (p24 v)).set 9 (p7 v)) (p3 v) (t2 v j l i)))) (wN (((p23 v).set 8 (p24 v)).set 9 (p7 v)) (p26 v))))) (wN (p27 v) (p26 v)))) (wL 1 ((.exit 0),(p27 v),(p26 v)))))))) (wR ((p27 v).set 4 (p16 v)) (p26 v))))
def p29 (v:Lt):AV:=(.agg [k6,k27,k28,k3,k36,k4,k37])
def p30 (v:Lt):Obj:=.cells [k0,k38,.nils,(.sl 31 0 v.n 4),k9,k2,k3,k21,(k22 v),.nils,k2]
def p31 (v:Lt):Obj:=.cells [k0,k38,.nils,k39,k9,k2,k3,k21,(k22 v),k16,k16]
def p32 (v:Lt):Obj:=.cells [k6,k27,k28,k3,k36,k4,k37]
def p33 (v:Lt):St:=((p26 v)++[(p30 v),(p18 v),(p31 v),(p32 v),.cells [k40]])
def p34 (v:Lt):AV:=(.box [k6,k27,k28,k3,k36,k4,k37])
def p35 (v:Lt):List AV:=[k40,(p29 v),(p34 v),(.ptr 131 0),k2,.undef,.undef,.undef]
def p36 (v:Lt):Obj:=.cells [k0,k38,.nils,k39,k9,k2,k3,k21,(k22 v),k16,(.sl 132 0 1 2)]
def p37 (v:Lt):St:=(((p33 v).set 128 ((p36 v)))++[.cells [k27],.cells [k27,k16]])
def p38 (v:Lt):List AV:=((((p35 v).set 5 (p29 v)).set 6 k2).set 7 k41)
def p39 (v:Lt):St:=(((p37 v).set 132 (.cells [k27,k41]))++[(p32 v)])
theorem t4 (v:Lt) (i:MOK v.m) (j:v.n≤12):Ev e8 171 [k40,(p29 v)] (p33 v) k42 (p39 v):=wF (fn:=a171) (wS 5 (p35 v) (p37 v) (wO (.normal,(p38 v),(p39 v)) (.normal,(p35 v),(p39 v)) (.normal,(p35 v),(p39 v))))
def p40 (v:Lt):AV:=(.agg [k6,k43,k44,k3,k48,k4,k49])
def p41 (v:Lt):Obj:=.cells [k6,k43,k44,k3,k48,k4,k49]
def p42 (v:Lt):St:=((p39 v)++[(p41 v),.cells [k40]])
def p43 (v:Lt):AV:=(.box [k6,k43,k44,k3,k48,k4,k49])
def p44 (v:Lt):List AV:=[k40,(p40 v),(p43 v),(.ptr 136 0),k26,.undef,.undef,.undef]
def p45 (v:Lt):Obj:=.cells [k0,k38,.nils,k39,k9,k2,k3,k21,(k22 v),k16,(.sl 137 0 2 2)]
def p46 (v:Lt):St:=((((p42 v).set 128 ((p45 v))).set 132 (.dead))++[.cells [k43],.cells [k27,k41,k43,k16]])
def p47 (v:Lt):List AV:=((((p44 v).set 5 (p40 v)).set 6 k2).set 7 k50)
def p48 (v:Lt):St:=(((p46 v).set 137 (.cells [k27,k41,k43,k50]))++[(p41 v)])
theorem t5 (v:Lt) (i:MOK v.m) (j:v.n≤12):Ev e8 171 [k40,(p40 v)] (p42 v) k42 (p48 v):=wF (fn:=a171) (wS 5 (p44 v) (p46 v) (wO (.normal,(p47 v),(p48 v)) (.normal,(p44 v),(p48 v)) (.normal,(p44 v),(p48 v))))
def p49 (v:Lt):AV:=(.agg [k6,k51,k52,k3,k54,k4,k49])
def p50 (v:Lt):Obj:=.cells [k6,k51,k52,k3,k54,k4,k49]
def p51 (v:Lt):St:=((p48 v)++[(p50 v),.cells [k40]])
def p52 (v:Lt):AV:=(.box [k6,k51,k52,k3,k54,k4,k49])
def p53 (v:Lt):List AV:=[k40,(p49 v),(p52 v),(.ptr 141 0),k25,.undef,.undef,.undef]
def p54 (v:Lt):Obj:=.cells [k0,k38,.nils,k39,k9,k2,k3,k21,(k22 v),k16,(.sl 142 0 3 2)]
def p55 (v:Lt):Obj:=.cells [k27,k41,k43,k50,k51,k16]
def p56 (v:Lt):St:=((((p51 v).set 128 ((p54 v))).set 137 (.dead))++[.cells [k51],(p55 v)])
def p57 (v:Lt):List AV:=((((p53 v).set 5 (p49 v)).set 6 k2).set 7 (.sl 143 0 1 7))
def p58 (v:Lt):Obj:=.cells [k27,k41,k43,k50,k51,(.sl 143 0 1 7)]
def p59 (v:Lt):St:=(((p56 v).set 142 ((p58 v)))++[(p50 v)])
theorem t6 (v:Lt) (i:MOK v.m) (j:v.n≤12):Ev e8 171 [k40,(p49 v)] (p51 v) k42 (p59 v):=wF (fn:=a171) (wS 5 (p53 v) (p56 v) (wO (.normal,(p57 v),(p59 v)) (.normal,(p53 v),(p59 v)) (.normal,(p53 v),(p59 v))))
def p60 (v:Lt):AV:=k55
def p61 (v:Lt):St:=((p26 v)++[(p30 v),(p18 v),(p31 v)])
def p62 (v:Lt):List AV:=[k40,(p60 v),.undef,.undef,(p60 v),k56,k2,.undef]
def p63 (v:Lt):List AV:=((((p62 v).set 2 (.ptr 129 0)).set 7 k6).set 6 k26)
def p64 (v:Lt):List AV:=((((p63 v).set 2 (.ptr 134 0)).set 6 k25).set 2 (.ptr 139 0))
theorem t7 (v:Lt) (i:MOK v.m) (j:v.n≤12):Ev e8 110 [k40,(p60 v)] (p61 v) k42 (p59 v):=wF (fn:=a110) (wS 1 (p62 v) (p61 v) (wB1 (XC.loop (LX.step (wS 1 (p62 v) (p61 v) (XC.seq (wB0 (wS 3 (((p62 v).set 2 (.ptr 129 0)).set 7 k6) (p33 v) (wB0 (wU true (wC 2 (((p62 v).set 2 (.ptr 129 0)).set 7 k6) (p39 v) (t4 v i j)))))) (wN (p63 v) (p39 v)))) (LX.step (wS 1 (p63 v) (p39 v) (XC.seq (wB0 (wS 3 ((p63 v).set 2 (.ptr 134 0)) (p42 v) (wB0 (wU true (wC 2 ((p63 v).set 2 (.ptr 134 0)) (p48 v) (t5 v i j)))))) (wN (((p63 v).set 2 (.ptr 134 0)).set 6 k25) (p48 v)))) (LX.step (wS 1 (((p63 v).set 2 (.ptr 134 0)).set 6 k25) (p48 v) (XC.seq (wB0 (wS 3 (p64 v) (p51 v) (wB0 (wU true (wC 2 (p64 v) (p59 v) (t6 v i j)))))) (wN ((p64 v).set 6 k56) (p59 v)))) (wL 1 ((.exit 0),((p64 v).set 6 k56),(p59 v)))))))))
def p65 (v:Lt):List AV:=[k0,k57,k39,(p60 v),(p14 v)]
def p66 (v:Lt):St:=((p26 v)++[(p30 v),(p18 v)])
def p67 (v:Lt):List AV:=[k0,k57,k39,(p60 v),(p14 v),k58,(p16 v),k16,k40]
theorem t8 (v:Lt) (i:MOK v.m) (j:v.n≤12):Ev e8 44 (p65 v) (p66 v) (.sl 142 0 3 2) (p59 v):=wF (fn:=a44) (wS 2 (p67 v) (p61 v) (XC.seq (wC 2 (p67 v) (p59 v) (t7 v i j)) (wR ((p67 v).set 7 (.sl 142 0 3 2)) (p59 v))))
def p68 (v:Lt):Obj:=.cells [k0,k38,.nils,(.sl 31 0 v.n 4),k9,k2,k3,k21,(k22 v),.nils,k26]
def p69 (v:Lt):Obj:=.cells [k9,k2,k3,k59,(.list true [[k11,k2,k29,k4,k4],[k9,k2,k3,k33,k35]])]
def p70 (v:Lt):Obj:=.cells [k9,k2,k3,k59,(.list true [[k11,k2,k29,k4,k4],[k9,k2,k3,k33,(k60 v)]])]
def p71 (v:Lt):Obj:=.cells [k9,k2,k3,k61,(.list true [[k11,k2,k19,k4,k4],[k6,(k7 v),k3,k4,k4]])]
def p72 (v:Lt):St:=(((p59 v).set 126 ((p68 v)))++[(p69 v),.cells [k10],.cells [k30],(p70 v),.cells [k31],.cells [k32],(p71 v)])
def p73 (v:Lt):AV:=(.tuple [(.agg [k3,k3,k4,k4]),k14])
abbrev Q9 (v:Lt):Prop:=Ev e8 177 [(k62 v),k29] (p72 v) (p73 v) (p72 v)
def p74 (v:Lt):AV:=(k65 v)
def p75 (v:Lt):Obj:=.cells [k63,k29,k66,(.list true [[k11,k2,k19,k4,k4]])]
def p76 (v:Lt):Obj:=.cells [k63,k29,(.list true [[k32],[k31]]),(.list true [[k6,(k7 v),k3,k4,k4],[k11,k2,k19,k4,k4]])]
def p77 (v:Lt):St:=((p72 v)++[.cells [k31],(p75 v),.cells [k32],(p76 v)])
def p78 (v:Lt):St:=((p77 v)++[.dead,.cells v.C2])
abbrev Q10 (v:Lt):Prop:=Ev e8 18 [(k62 v),(p74 v)] (p77 v) (k68 v) (p78 v)
def p79 (v:Lt):AV:=(.agg [k28,k70,k63,k4,k14,k14,k1,k2,k3,k4,k4])
def p80 (v:Lt):AV:=(.agg [k9,k2,k3,k71,(k72 v)])
def p81 (v:Lt):AV:=(.box [k28,k70,k63,k4,k14,k14,k1,k2,k3,k4,k4])
def p82 (v:Lt):AV:=(.box [k9,k2,k3,k71,(k72 v)])
def p83 (v:Lt):List AV:=[k73,(p79 v),k29,(p80 v),(p81 v),(p82 v),k2,k74,k63,.undef,.undef,.undef,.undef,.undef,.undef,.undef,.undef,.undef,.undef]
def p84 (v:Lt):List AV:=(((p83 v).set 9 k75).set 10 k14)
def p85 (v:Lt):AV:=(.box [k63,k29,k16,k16])
def p86 (v:Lt):AV:=(.box [k63,k29,k45,(k64 v)])
def p87 (v:Lt):AV:=(.box [k6,k63,(.list false [[k31,k4,k76,k4,k5,k14,k1,k2,k3,k4,k4],[k32,k4,k13,k4,k14,k14,k1,k2,k3,k4,k4],[(.str [109,111,111,100]),k4,(.str [77,111,111,100]),k4,k14,k14,k1,k2,k3,k4,k4],[(.str [102,114,105,101,110,100,115]),k4,k3,(.list false [[k63,k4,k5]]),k14,k14,k1,k2,k3,k4,k4],[(.str [112,101,116]),k4,(.str [80,101,116]),k4,k14,k14,k1,k2,k3,k4,k4],[(.str [116,97,103,115]),k4,k3,(.list false [[k76,k4,k14]]),k14,k14,k1,k2,k3,k4,k4]]),(.list false [[(.str [78,97,109,101,100])]])])
def p88 (v:Lt):AV:=(.box [k9,k2,k3,k33,(k60 v)])
def p89 (v:Lt):List AV:=[k73,(p79 v),k29,(p80 v),(p81 v),(p82 v),k2,k74,k63,(p86 v),k14,(p87 v),(p88 v),k26,(.ptr 153 0),k26,k33,k25,k25]
def p90 (v:Lt):Obj:=.cells [k0,k38,.nils,(k67 v),k9,k2,k3,k21,(k22 v),.nils,k26]
theorem t11 (v:Lt) (u:MOK v.m) (l:v.n≤12) (j:Q9 v) (i:Q10 v):Ev e8 113 [k73,(p79 v),k29,(p80 v)] (p72 v) k2 ((p78 v).set 126 ((p90 v))):=wF (fn:=a113) (wS 2 (p83 v) (p72 v) (XC.seq (wC 5 (p84 v) (p72 v) j) (XC.seq (wB0 (wU false (wT false (p84 v) (p72 v) (wN ((p84 v).set 9 (p85 v)) (p72 v)) (g6i l (P:=fun v=>tst (callG e8 400) [] a113r10 (.t 41) (p84 v) (p72 v)=some (.bool false,(p84 v),(p72 v))) (fun _ _ _ _ _ _ _ _ _ _ _=>⟨(by kernel_rfl),(by kernel_rfl),(by kernel_rfl),(by kernel_rfl),(by kernel_rfl),(by kernel_rfl),(by kernel_rfl),(by kernel_rfl),(by kernel_rfl),(by kernel_rfl),(by kernel_rfl),(by kernel_rfl),(by kernel_rfl)⟩))))) (wS 4 (p89 v) (p77 v) (XC.seq (wC 6 (p89 v) ((p78 v).set 126 ((p90 v))) i) (wR (p89 v) ((p78 v).set 126 ((p90 v)))))))))
def p91 (v:Lt):List AV:=[(k68 v),k29]
def p92 (v:Lt):Obj:=.cells [k0,k38,.nils,(k67 v),k5,k4,k9,k2,k3,k21,(k22 v),.nils,k14,k26]
def p93 (v:Lt):St:=(((p78 v).set 126 ((p90 v)))++[(p92 v),.cells [(k67 v),k5,k4]])
def p94 (v:Lt):AV:=(.tuple [(k65 v),k5])
abbrev Q12 (v:Lt):Prop:=Ev e8 177 (p91 v) (p93 v) (p94 v) (p93 v)
def p95 (v:Lt):AV:=(.agg [k6,k3,k32,k3,k4,k4,k4])
def p96 (v:Lt):Obj:=.cells [k0,k38,.nils,k63,k9,k2,k3,k21,(k22 v),k16,k16]
def p97 (v:Lt):Obj:=.cells [k6,k3,k32,k3,k4,k4,k4]
def p98 (v:Lt):St:=((p93 v)++[(p18 v),(p96 v),(p97 v),.cells [k77]])
def p99 (v:Lt):AV:=(.box [k6,k3,k32,k3,k4,k4,k4])
def a3t (v:Lt):List AV:=[k77,(p95 v),(p99 v),(.ptr 163 0),k2,.undef,.undef,.undef]
def g8W (v:Lt):Obj:=.cells [k0,k38,.nils,k63,k9,k2,k3,k21,(k22 v),k16,k78]
def f2X (v:Lt):St:=(((p98 v).set 160 ((g8W v)))++[.cells [k32],.cells [k32,k16]])
def g5P (v:Lt):List AV:=((((a3t v).set 5 (p95 v)).set 6 k2).set 7 (.sl 165 0 1 7))
def G5 (v:Lt):St:=(((f2X v).set 164 (.cells [k32,(.sl 165 0 1 7)]))++[(p97 v)])
theorem t13 (v:Lt) (i:MOK v.m) (j:v.n≤12):Ev e8 171 [k77,(p95 v)] (p98 v) k42 (G5 v):=wF (fn:=a171) (wS 5 (a3t v) (f2X v) (wO (.normal,(g5P v),(G5 v)) (.normal,(a3t v),(G5 v)) (.normal,(a3t v),(G5 v))))
def a1g (v:Lt):AV:=k37
def b2M (v:Lt):St:=((p93 v)++[(p18 v),(p96 v)])
def a2T (v:Lt):List AV:=[k77,(a1g v),.undef,.undef,(a1g v),k26,k2,.undef]
def d9U (v:Lt):List AV:=((((a2T v).set 2 k79).set 7 k6).set 6 k26)
theorem t14 (v:Lt) (i:MOK v.m) (j:v.n≤12):Ev e8 110 [k77,(a1g v)] (b2M v) k42 (G5 v):=wF (fn:=a110) (wS 1 (a2T v) (b2M v) (wB1 (XC.loop (LX.step (wS 1 (a2T v) (b2M v) (XC.seq (wB0 (wS 3 (((a2T v).set 2 k79).set 7 k6) (p98 v) (wB0 (wU true (wC 2 (((a2T v).set 2 k79).set 7 k6) (G5 v) (t13 v i j)))))) (wN (d9U v) (G5 v)))) (wL 1 ((.exit 0),(d9U v),(G5 v)))))))
def b3U (v:Lt):List AV:=(((p65 v).set 2 k63).set 3 (a1g v))
def f19 (v:Lt):St:=((p93 v)++[(p18 v)])
def a6M (v:Lt):List AV:=((((p67 v).set 2 k63).set 3 (a1g v)).set 8 k77)
theorem t15 (v:Lt) (i:MOK v.m) (j:v.n≤12):Ev e8 44 (b3U v) (f19 v) k78 (G5 v):=wF (fn:=a44) (wS 2 (a6M v) (b2M v) (XC.seq (wC 2 (a6M v) (G5 v) (t14 v i j)) (wR ((a6M v).set 7 k78) (G5 v))))
def a0F (v:Lt):Obj:=.cells [k0,k38,.nils,(k67 v),k5,k4,k9,k2,k3,k21,(k22 v),.nils,k14,k25]
def a9q (v:Lt):List AV:=[k0,k15,(p1 v),(.ptr 166 0),(.ptr 167 0),(p7 v),k14,.undef,.undef,.undef]
def s6 (v:Lt):St:=(((G5 v).set 157 ((a0F v)))++[.cells [k0],.cells [k13,k4,k14]])
theorem t16 (v:Lt) (i:MOK v.m) (j:v.n≤12):Ev e8 128 (p10 v) ((G5 v).set 157 ((a0F v))) k5 (s6 v):=wF (fn:=a128) (wS 3 (a9q v) (s6 v) (wZ (wS 1 ((a9q v).set 8 k13) (s6 v) (wB0 (wU true (XC.seq (d5p i) (wR (((a9q v).set 8 k13).set 6 k5) (s6 v))))))))
def a5r (v:Lt):List AV:=[k80,k13,(p1 v),(p7 v),k14]
theorem t17 (v:Lt) (i:MOK v.m) (j:v.n≤12):Ev e8 267 [k80,k13,(p1 v)] ((G5 v).set 157 ((a0F v))) k5 (s6 v):=wF (fn:=a267) (wS 2 (a5r v) ((G5 v).set 157 ((a0F v))) (XC.seq (wC 7 ((a5r v).set 4 k5) (s6 v) (t16 v i j)) (wR ((a5r v).set 4 k5) (s6 v))))
def b8O (v:Lt):List AV:=(((((a5r v).set 4 k5).set 1 k15).set 3 k81).set 4 k82)
def a9s (v:Lt):List AV:=[k80,k15,(p1 v),k81,k82,k17,(p7 v),k83,(p8 v),.undef,.undef,.undef,.undef,.undef,.undef,.undef,.undef,.undef,.undef,.undef]
theorem t18 (v:Lt) (i:MOK v.m) (j:v.n≤12):Ev e8 233 (b8O v) ((G5 v).set 157 ((a0F v))) (p1 v) (s6 v):=wF (fn:=a233) (wS 1 (a9s v) ((G5 v).set 157 ((a0F v))) (wZ (wB0 (wU false (wU false (wU true (XC.seq (wD 4 false (a9s v) (s6 v) (t17 v i j) (wN (a9s v) (s6 v))) (wR ((a9s v).set 8 (p7 v)) (s6 v)))))))))
def b4h (v:Lt):List AV:=[k80,k15,(p1 v),k81,k82,k17,(p7 v),k83,(p8 v),k14,k2,.undef]
def g48 (v:Lt):List AV:=((((b4h v).set 11 (p7 v)).set 8 (p7 v)).set 9 k5)
def b4P (v:Lt):AV:=(.tuple [(k8 v),k5])
theorem t19 (v:Lt) (i:MOK v.m) (j:v.n≤12):Ev e8 182 (b8O v) ((G5 v).set 157 ((a0F v))) (b4P v) (s6 v):=wF (fn:=a182) (wS 2 (b4h v) ((G5 v).set 157 ((a0F v))) (XC.seq (wC 5 ((b4h v).set 11 (p7 v)) (s6 v) (t18 v i j)) (wR (g48 v) (s6 v))))
def e8A (v:Lt):AV:=(.agg [k32,k4,k13,k4,k14,k14,k1,k2,k3,k4,k4])
def f0i (v:Lt):List AV:=[k80,k63,(p74 v),(e8A v),k81,k82]
def b9S (v:Lt):AV:=(.box [k32,k4,k13,k4,k14,k14,k1,k2,k3,k4,k4])
def b42 (v:Lt):List AV:=[k80,k63,(p74 v),(e8A v),k81,k82,(p86 v),(b9S v),k83,(p8 v),k14,.undef,.undef,.undef,.undef,.undef,.undef,.undef,.undef,.undef,.undef]
def f4M (v:Lt):List AV:=((((b42 v).set 11 (p7 v)).set 9 (p7 v)).set 10 k5)
theorem t20 (v:Lt) (i:MOK v.m) (j:v.n≤12):Ev e8 289 (f0i v) ((G5 v).set 157 ((a0F v))) (b4P v) (s6 v):=wF (fn:=a289) (wS 2 (b42 v) ((G5 v).set 157 ((a0F v))) (wZ (wU true (wS 1 ((b42 v).set 11 (p7 v)) ((G5 v).set 157 ((a0F v))) (XC.seq (wC 6 (f4M v) (s6 v) (t19 v i j)) (wR (f4M v) (s6 v)))))))
def c0h (v:Lt):List AV:=[k80,k63,(p74 v),(a1g v),k84]
def b3R (v:Lt):List AV:=[k80,k63,(p74 v),(a1g v),k84,(p86 v),(p8 v),k14,(.ptr 159 0),.undef,.undef,.undef,.undef,.undef,.undef,.undef,.undef,.undef]
def d7I (v:Lt):List AV:=((((b3R v).set 15 k78).set 16 k26).set 17 k2)
def b4J (v:Lt):List AV:=[k80,k63,(p74 v),(a1g v),k84,(p86 v),(p8 v),k14,(.ptr 159 0),k83,(b9S v),k5,k85,.undef,.undef,k78,k26,k2]
def r7 (v:Lt):Obj:=.cells [k9,k2,k3,(.list true [[k32]]),(.list true [[k6,(k7 v),k3,k4,k4]])]
def b9D (v:Lt):List AV:=((((b4J v).set 13 (p7 v)).set 14 k5).set 17 k26)
def y8 (v:Lt):AV:=(.box [k9,k2,k3,k86,(k87 v)])
def b4s (v:Lt):AV:=(.tuple [(k88 v),k5])
theorem t21 (v:Lt) (i:MOK v.m) (j:v.n≤12):Ev e8 269 (c0h v) (p93 v) (b4s v) ((s6 v).set 159 ((r7 v))):=wF (fn:=a269) (wS 2 (b3R v) (f19 v) (XC.seq (XC.seq (wC 14 (d7I v) (G5 v) (t15 v i j)) (wB1 (XC.loop (LX.step (wS 1 (d7I v) (G5 v) (XC.seq (wB0 (wS 5 (b4J v) ((G5 v).set 157 ((a0F v))) (XC.seq (wC 6 (((b4J v).set 13 (p7 v)).set 14 k5) (s6 v) (t20 v i j)) (wN (((b4J v).set 13 (p7 v)).set 14 k5) ((s6 v).set 159 ((r7 v))))))) (wN (b9D v) ((s6 v).set 159 ((r7 v)))))) (wL 1 ((.exit 0),(b9D v),((s6 v).set 159 ((r7 v))))))))) (wR (((b9D v).set 6 (y8 v)).set 7 k5) ((s6 v).set 159 ((r7 v))))))
def a1f (v:Lt):AV:=(.agg [k63,k4,k14])
def b7a (v:Lt):AV:=(.agg [(.int .u8 8),k2,k29,k4,k4])
def b8o (v:Lt):List AV:=((((c0h v).set 1 (a1f v)).set 2 (b7a v)).set 3 k89)
def b2I (v:Lt):St:=(((p78 v).set 126 ((p90 v)))++[(p92 v)])
def a5F (v:Lt):AV:=(.box [k63,k4,k14])
def f0Z (v:Lt):AV:=(.box [(.int .u8 8),k2,k29,k4,k4])
def b0t (v:Lt):List AV:=[k80,(a1f v),(b7a v),k89,k84,(a5F v),(f0Z v),k90,(p8 v),.undef,.undef,.undef,.undef,.undef,.undef,.undef,.undef,.undef,.undef,.undef]
def d70 (v:Lt):List AV:=((((b0t v).set 14 (p86 v)).set 15 k5).set 16 (y8 v))
def b4H (v:Lt):AV:=(k88 v)
theorem t22 (v:Lt) (j:MOK v.m) (l:v.n≤12) (i:Q12 v):Ev e8 233 (b8o v) (b2I v) (b4H v) ((s6 v).set 159 ((r7 v))):=wF (fn:=a233) (wS 3 (b0t v) (p93 v) (XC.seq (wC 7 (((b0t v).set 14 (p86 v)).set 15 k5) (p93 v) i) (wS 1 (((b0t v).set 14 (p86 v)).set 15 k5) (p93 v) (XC.seq (wC 7 (d70 v) ((s6 v).set 159 ((r7 v))) (t21 v j l)) (wR ((d70 v).set 8 (y8 v)) ((s6 v).set 159 ((r7 v))))))))
def b4r (v:Lt):List AV:=[k80,(a1f v),(b7a v),k89,k84,(a5F v),(f0Z v),k90,(p8 v),k14,k2,.undef]
def g5V (v:Lt):List AV:=((((b4r v).set 11 (y8 v)).set 8 (y8 v)).set 9 k5)
theorem t23 (v:Lt) (j:MOK v.m) (l:v.n≤12) (i:Q12 v):Ev e8 182 (b8o v) (b2I v) (b4s v) ((s6 v).set 159 ((r7 v))):=wF (fn:=a182) (wS 2 (b4r v) (b2I v) (XC.seq (wC 5 ((b4r v).set 11 (y8 v)) ((s6 v).set 159 ((r7 v))) (t22 v j l i)) (wR (g5V v) ((s6 v).set 159 ((r7 v))))))
def e6h (v:Lt):List AV:=[k0,(k91 v),k57,(p14 v),(a1f v),k89,k29,k26]
def c0e (v:Lt):List AV:=[k0,(k91 v),k57,(p14 v),(a1f v),k89,k29,k26,(.box [(k67 v),k5,k4]),k58,(p16 v),(a5F v),k90,(p8 v),k16,k2,k80,.undef]
def g5N (v:Lt):List AV:=(((((c0e v).set 17 (y8 v)).set 13 (y8 v)).set 14 .nils).set 15 k25)
def d7h (v:Lt):AV:=(.tuple [(k88 v),.nils,k25])
theorem t24 (v:Lt) (j:MOK v.m) (l:v.n≤12) (i:Q12 v):Ev e8 114 (e6h v) ((p78 v).set 126 ((p90 v))) (d7h v) ((s6 v).set 159 ((r7 v))):=wF (fn:=a114) (wS 2 (c0e v) (b2I v) (XC.seq (wC 8 ((c0e v).set 17 (y8 v)) ((s6 v).set 159 ((r7 v))) (t23 v j l i)) (wR (g5N v) ((s6 v).set 159 ((r7 v))))))
def g7D (v:Lt):List AV:=[k73,(p79 v),k89]
def a6J (v:Lt):List AV:=[k73,(p79 v),k89,(p81 v),k90,(p8 v),(p82 v),k2,k3,.undef,.undef,.undef,.undef,.undef]
def a9i (v:Lt):AV:=(.box [k11,k2,k29,k4,k4])
def e70 (v:Lt):List AV:=((((((a6J v).set 8 k29).set 9 (a9i v)).set 10 (y8 v)).set 11 .nils).set 12 k25)
def a0H (v:Lt):Obj:=.cells [k0,k38,.nils,(k67 v),k9,k2,k3,k21,(k22 v),.nils,k25]
def g5p (v:Lt):List AV:=(((e70 v).set 5 (y8 v)).set 13 k74)
theorem t25 (v:Lt) (t:MOK v.m) (u:v.n≤12) (l:Q9 v) (i:Q10 v) (j:Q12 v):Ev e8 46 (g7D v) ((p59 v).set 126 ((p68 v))) (b4H v) (((s6 v).set 159 ((r7 v))).set 126 ((a0H v))):=wF (fn:=a46) (wS 4 (a6J v) (p72 v) (XC.seq (wU true (wS 2 (((a6J v).set 8 k29).set 9 (a9i v)) (p72 v) (wC 4 (((a6J v).set 8 k29).set 9 (a9i v)) ((p78 v).set 126 ((p90 v))) (t11 v t u l i)))) (wS 1 (((a6J v).set 8 k29).set 9 (a9i v)) ((p78 v).set 126 ((p90 v))) (XC.seq (wC 25 (e70 v) ((s6 v).set 159 ((r7 v))) (t24 v t u j)) (wR (g5p v) (((s6 v).set 159 ((r7 v))).set 126 ((a0H v))))))))
def f1M (v:Lt):Obj:=.cells [k0,k38,.nils,(k67 v),k9,k2,k3,k21,(k22 v),.nils,k56]
def b20 (v:Lt):Obj:=.cells [k9,k2,k3,(.list true [[k27]]),(.list true [[k9,k2,k3,k86,(k87 v)]])]
def d5z (v:Lt):Obj:=.cells [k9,k2,k3,k59,(.list true [[k34,k2,k10,k4,k4],[k9,k2,k3,k45,k47]])]
def e8j (v:Lt):Obj:=.cells [k9,k2,k3,k59,(.list true [[k11,k2,(k12 v),k4,k4],[k9,k2,k3,k33,(k92 v)]])]
def f0f (v:Lt):Obj:=.cells [k9,k2,k3,k61,(.list true [[k11,k2,k46,k4,k4],[k6,(k7 v),k3,k4,k4]])]
def s9 (v:Lt):St:=((((((s6 v).set 159 ((r7 v))).set 126 ((a0H v))).set 126 ((f1M v))).set 127 ((b20 v)))++[(d5z v),.cells [k10],.cells [k30],(e8j v),.cells [k32],.cells [k31],(f0f v)])
def g7v (v:Lt):AV:=(.tuple [(k95 v),k5])
abbrev Q26 (v:Lt):Prop:=Ev e8 177 [(k68 v),(k12 v)] (s9 v) (g7v v) (s9 v)
def d5F (v:Lt):AV:=(k95 v)
def d41 (v:Lt):AV:=k96
def b4i (v:Lt):St:=((s9 v)++[.cells [k31]])
def b4n (v:Lt):AV:=(.agg [k63,(k12 v),(.list false v.K1),(.list false v.L1)])
def g4z (v:Lt):Obj:=.cells [k63,(k12 v),(.list true v.K1),(.list true v.L1)]
def a7r (v:Lt):St:=((b4i v)++[(g4z v)])
abbrev Q27 (v:Lt):Prop:=Ev e8 180 [(d5F v),k31,(d41 v)] (b4i v) (b4n v) (a7r v)
def b24 (v:Lt):St:=((a7r v)++[.cells [k32]])
def a4b (v:Lt):AV:=(k97 v)
def g5z (v:Lt):Obj:=.cells [k63,(k12 v),(.list true v.K2),(.list true v.L2)]
def a2O (v:Lt):St:=((b24 v)++[(g5z v)])
abbrev Q28 (v:Lt):Prop:=Ev e8 180 [(b4n v),k32,(p1 v)] (b24 v) (a4b v) (a2O v)
def a2L (v:Lt):St:=((a2O v)++[.cells v.C3])
abbrev Q29 (v:Lt):Prop:=Ev e8 18 [(k68 v),(a4b v)] (a2O v) (k99 v) (a2L v)
def a1V (v:Lt):AV:=(.agg [k44,k70,k63,k4,k14,k14,k1,k2,k3,k4,k4])
def a5M (v:Lt):AV:=(.agg [k9,k2,k3,k71,(e12 v)])
def b2F (v:Lt):AV:=(.box [k44,k70,k63,k4,k14,k14,k1,k2,k3,k4,k4])
def e0W (v:Lt):AV:=(.box [k9,k2,k3,k71,(e12 v)])
def a2R (v:Lt):List AV:=[k73,(a1V v),(k12 v),(a5M v),(b2F v),(e0W v),k2,(.str [117,112,100,97,116,101]),k63,.undef,.undef,.undef,.undef,.undef,.undef,.undef,.undef,.undef,.undef]
def b4O (v:Lt):AV:=(.box [k63,(k12 v),(k93 v),(k94 v)])
def g8M (v:Lt):AV:=(.box [k9,k2,k3,k33,(k92 v)])
def e3g (v:Lt):List AV:=(((((a2R v).set 9 (b4O v)).set 10 k5).set 11 (p87 v)).set 12 (g8M v))
def b7p (v:Lt):List AV:=((((e3g v).set 16 k33).set 17 k25).set 18 k2)
def a9P (v:Lt):List AV:=((((b7p v).set 13 k2).set 14 (.ptr 175 0)).set 15 k2)
def b4x (v:Lt):AV:=(.box [k63,(k12 v),(.list false v.K1),(.list false v.L1)])
def a6X (v:Lt):List AV:=((((((a9P v).set 9 (b4x v)).set 18 k26).set 13 k26).set 14 (.ptr 177 0)).set 15 k26)
def a1b (v:Lt):AV:=(.box [k63,(k12 v),(.list false v.K2),(.list false v.L2)])
def a3u (v:Lt):Obj:=.cells [k0,k38,.nils,(k98 v),k9,k2,k3,k21,(k22 v),.nils,k56]
theorem g46 (v:Lt) (u:MOK v.m) (x:v.n≤12) (i:Q26 v) (j:Q27 v) (l:Q28 v) (t:Q29 v):Ev e8 113 [k73,(a1V v),(k12 v),(a5M v)] (s9 v) k2 ((a2L v).set 126 ((a3u v))):=wF (fn:=a113) (wS 2 (a2R v) (s9 v) (XC.seq (wC 5 (((a2R v).set 9 (b4O v)).set 10 k5) (s9 v) i) (wS 4 (e3g v) (s9 v) (XC.seq (wS 1 (b7p v) (s9 v) (wB1 (XC.loop (LX.step (wS 1 (b7p v) (s9 v) (XC.seq (wB0 (wS 2 (a9P v) (b4i v) (wU true (wC 18 ((a9P v).set 9 (b4x v)) (a7r v) j)))) (wN (((a9P v).set 9 (b4x v)).set 18 k26) (a7r v)))) (LX.step (wS 1 (((a9P v).set 9 (b4x v)).set 18 k26) (a7r v) (XC.seq (wB0 (wS 2 (a6X v) (b24 v) (wU true (wC 18 ((a6X v).set 9 (a1b v)) (a2O v) l)))) (wN (((a6X v).set 9 (a1b v)).set 18 k25) (a2O v)))) (wL 1 ((.exit 1),(((a6X v).set 9 (a1b v)).set 18 k25),(a2O v)))))))) (XC.seq (wC 6 (((a6X v).set 9 (a1b v)).set 18 k25) ((a2L v).set 126 ((a3u v))) t) (wR (((a6X v).set 9 (a1b v)).set 18 k25) ((a2L v).set 126 ((a3u v)))))))))
def e2d (v:Lt):Obj:=.cells [k0,k38,.nils,(k98 v),k5,k4,k9,k2,k3,k21,(k22 v),.nils,k14,k56]
def a2f (v:Lt):St:=(((a2L v).set 126 ((a3u v)))++[(e2d v),.cells [(k98 v),k5,k4]])
def g41 (v:Lt):AV:=(.tuple [(k97 v),k5])
abbrev Q31 (v:Lt):Prop:=Ev e8 177 [(k99 v),(k12 v)] (a2f v) (g41 v) (a2f v)
def b9q (v:Lt):AV:=(.agg [k6,k3,k31,k3,k4,k4,k4])
def a4d (v:Lt):Obj:=.cells [k6,k3,k31,k3,k4,k4,k4]
def b85 (v:Lt):St:=((a2f v)++[(p18 v),(p96 v),(a4d v),.cells [a4a]])
def g9r (v:Lt):AV:=(.box [k6,k3,k31,k3,k4,k4,k4])
def b3X (v:Lt):List AV:=[a4a,(b9q v),(g9r v),(.ptr 186 0),k2,.undef,.undef,.undef]
def g5o (v:Lt):Obj:=.cells [k0,k38,.nils,k63,k9,k2,k3,k21,(k22 v),k16,a83]
def f2n (v:Lt):St:=(((b85 v).set 183 ((g5o v)))++[.cells [k31],.cells [k31,k16]])
def g4P (v:Lt):List AV:=((((b3X v).set 5 (b9q v)).set 6 k2).set 7 (.sl 188 0 1 7))
def J3 (v:Lt):St:=(((f2n v).set 187 (.cells [k31,(.sl 188 0 1 7)]))++[(a4d v)])
theorem t32 (v:Lt) (i:MOK v.m) (j:v.n≤12):Ev e8 171 [a4a,(b9q v)] (b85 v) k42 (J3 v):=wF (fn:=a171) (wS 5 (b3X v) (f2n v) (wO (.normal,(g4P v),(J3 v)) (.normal,(b3X v),(J3 v)) (.normal,(b3X v),(J3 v))))
def a1y (v:Lt):AV:=k49
def b4C (v:Lt):St:=((a2f v)++[(p18 v),(p96 v)])
def b0h (v:Lt):List AV:=((((a2T v).set 0 a4a).set 1 (a1y v)).set 4 (a1y v))
def d4k (v:Lt):List AV:=((((b0h v).set 2 (.ptr 184 0)).set 7 k6).set 6 k26)
theorem t33 (v:Lt) (i:MOK v.m) (j:v.n≤12):Ev e8 110 [a4a,(a1y v)] (b4C v) k42 (J3 v):=wF (fn:=a110) (wS 1 (b0h v) (b4C v) (wB1 (XC.loop (LX.step (wS 1 (b0h v) (b4C v) (XC.seq (wB0 (wS 3 (((b0h v).set 2 (.ptr 184 0)).set 7 k6) (b85 v) (wB0 (wU true (wC 2 (((b0h v).set 2 (.ptr 184 0)).set 7 k6) (J3 v) (t32 v i j)))))) (wN (d4k v) (J3 v)))) (wL 1 ((.exit 0),(d4k v),(J3 v)))))))
def d8O (v:Lt):St:=((a2f v)++[(p18 v)])
def g6L (v:Lt):List AV:=((((a6M v).set 3 (a1y v)).set 8 a4a).set 7 a83)
theorem t34 (v:Lt) (i:MOK v.m) (j:v.n≤12):Ev e8 44 ((b3U v).set 3 (a1y v)) (d8O v) a83 (J3 v):=wF (fn:=a44) (wS 2 (((a6M v).set 3 (a1y v)).set 8 a4a) (b4C v) (XC.seq (wC 2 (((a6M v).set 3 (a1y v)).set 8 a4a) (J3 v) (t33 v i j)) (wR (g6L v) (J3 v))))
def d8T (v:Lt):AV:=(.agg [k9,k2,k3,(.list false v.K2),(.list false v.L2)])
def a2X (v:Lt):Obj:=.cells [k0,k38,.nils,(k98 v),k5,k4,k9,k2,k3,k21,(k22 v),.nils,k14,a4i]
def b7g (v:Lt):AV:=(.tuple [k96,k5])
abbrev Q35 (v:Lt):Prop:=Ev e8 106 [(d8T v),k31] ((J3 v).set 180 ((a2X v))) (b7g v) ((J3 v).set 180 ((a2X v)))
def d9h (v:Lt):AV:=(.agg [k31,k4,k76,k4,k5,k14,k1,k2,k3,k4,k4])
def g38 (v:Lt):List AV:=[a3K,k63,(a4b v),(d9h v),e6d,f2z]
def d9H (v:Lt):AV:=(.box [k31,k4,k76,k4,k5,k14,k1,k2,k3,k4,k4])
def b7u (v:Lt):List AV:=[a3K,k63,(a4b v),(d9h v),e6d,f2z,(a1b v),(d9H v),f2j,(p8 v),k14,.undef,.undef,.undef,.undef,.undef,.undef,.undef,.undef,.undef,.undef]
def a7C (v:Lt):AV:=(.box [k11,k2,k46,k4,k4])
def a0c (v:Lt):Obj:=.cells [k76,k4,k14]
def I2 (v:Lt):St:=(((J3 v).set 180 ((a2X v)))++[.cells [k0],(a0c v)])
def g3N (v:Lt):List AV:=((((b7u v).set 11 (a7C v)).set 9 (a7C v)).set 10 k5)
theorem t36 (v:Lt) (j:MOK v.m) (l:v.n≤12) (i:Q35 v):Ev e8 289 (g38 v) ((J3 v).set 180 ((a2X v))) (b7g v) (I2 v):=wF (fn:=a289) (wS 2 (b7u v) ((J3 v).set 180 ((a2X v))) (wZ (wU true (XC.seq (wC 7 ((b7u v).set 11 (a7C v)) ((J3 v).set 180 ((a2X v))) i) (wR (g3N v) (I2 v))))))
def d9a (v:Lt):List AV:=[a3K,k63,(a4b v),(a1y v),a3A]
def d8I (v:Lt):List AV:=[a3K,k63,(a4b v),(a1y v),a3A,(a1b v),(p8 v),k14,(.ptr 182 0),.undef,.undef,.undef,.undef,.undef,.undef,.undef,.undef,.undef]
def e2j (v:Lt):List AV:=((((d8I v).set 15 a83).set 16 k26).set 17 k2)
def b3L (v:Lt):List AV:=[a3K,k63,(a4b v),(a1y v),a3A,(a1b v),(p8 v),k14,(.ptr 182 0),f2j,(d9H v),k5,(.list true [[k43],[k31]]),.undef,.undef,a83,k26,k2]
def M9 (v:Lt):Obj:=.cells [k9,k2,k3,k66,(.list true [[k11,k2,k46,k4,k4]])]
def b8H (v:Lt):List AV:=((((b3L v).set 13 (a7C v)).set 14 k5).set 17 k26)
def P3 (v:Lt):AV:=(.box [k9,k2,k3,a9L,b0c])
def f3B (v:Lt):AV:=(.tuple [b9M,k5])
theorem t37 (v:Lt) (j:MOK v.m) (l:v.n≤12) (i:Q35 v):Ev e8 269 (d9a v) (a2f v) (f3B v) ((I2 v).set 182 ((M9 v))):=wF (fn:=a269) (wS 2 (d8I v) (d8O v) (XC.seq (XC.seq (wC 14 (e2j v) (J3 v) (t34 v j l)) (wB1 (XC.loop (LX.step (wS 1 (e2j v) (J3 v) (XC.seq (wB0 (wS 5 (b3L v) ((J3 v).set 180 ((a2X v))) (XC.seq (wC 6 (((b3L v).set 13 (a7C v)).set 14 k5) (I2 v) (t36 v j l i)) (wN (((b3L v).set 13 (a7C v)).set 14 k5) ((I2 v).set 182 ((M9 v))))))) (wN (b8H v) ((I2 v).set 182 ((M9 v)))))) (wL 1 ((.exit 0),(b8H v),((I2 v).set 182 ((M9 v))))))))) (wR (((b8H v).set 6 (P3 v)).set 7 k5) ((I2 v).set 182 ((M9 v))))))
def c0d (v:Lt):AV:=(.agg [(.int .u8 8),k2,(k12 v),k4,k4])
def e9f (v:Lt):List AV:=((((d9a v).set 1 (a1f v)).set 2 (c0d v)).set 3 a5U)
def b2H (v:Lt):St:=(((a2L v).set 126 ((a3u v)))++[(e2d v)])
def d6p (v:Lt):AV:=(.box [(.int .u8 8),k2,(k12 v),k4,k4])
def b3I (v:Lt):List AV:=[a3K,(a1f v),(c0d v),a5U,a3A,(a5F v),(d6p v),a9J,(p8 v),.undef,.undef,.undef,.undef,.undef,.undef,.undef,.undef,.undef,.undef,.undef]
def e5l (v:Lt):List AV:=((((b3I v).set 14 (a1b v)).set 15 k5).set 16 (P3 v))
def d6c (v:Lt):AV:=b9M
theorem t38 (v:Lt) (l:MOK v.m) (t:v.n≤12) (i:Q31 v) (j:Q35 v):Ev e8 233 (e9f v) (b2H v) (d6c v) ((I2 v).set 182 ((M9 v))):=wF (fn:=a233) (wS 3 (b3I v) (a2f v) (XC.seq (wC 7 (((b3I v).set 14 (a1b v)).set 15 k5) (a2f v) i) (wS 1 (((b3I v).set 14 (a1b v)).set 15 k5) (a2f v) (XC.seq (wC 7 (e5l v) ((I2 v).set 182 ((M9 v))) (t37 v l t j)) (wR ((e5l v).set 8 (P3 v)) ((I2 v).set 182 ((M9 v))))))))
def b90 (v:Lt):List AV:=[a3K,(a1f v),(c0d v),a5U,a3A,(a5F v),(d6p v),a9J,(p8 v),k14,k2,.undef]
def g7n (v:Lt):List AV:=((((b90 v).set 11 (P3 v)).set 8 (P3 v)).set 9 k5)
theorem t39 (v:Lt) (l:MOK v.m) (t:v.n≤12) (i:Q31 v) (j:Q35 v):Ev e8 182 (e9f v) (b2H v) (f3B v) ((I2 v).set 182 ((M9 v))):=wF (fn:=a182) (wS 2 (b90 v) (b2H v) (XC.seq (wC 5 ((b90 v).set 11 (P3 v)) ((I2 v).set 182 ((M9 v))) (t38 v l t i j)) (wR (g7n v) ((I2 v).set 182 ((M9 v))))))
def g8H (v:Lt):List AV:=[k0,(e7T v),k57,(p14 v),(a1f v),a5U,(k12 v),k56]
def b7m (v:Lt):List AV:=[k0,(e7T v),k57,(p14 v),(a1f v),a5U,(k12 v),k56,(.box [(k98 v),k5,k4]),k58,(p16 v),(a5F v),a9J,(p8 v),k16,k2,a3K,.undef]
def g7d (v:Lt):List AV:=(((((b7m v).set 17 (P3 v)).set 13 (P3 v)).set 14 .nils).set 15 a4i)
def g8K (v:Lt):AV:=(.tuple [b9M,.nils,a4i])
theorem t40 (v:Lt) (l:MOK v.m) (t:v.n≤12) (i:Q31 v) (j:Q35 v):Ev e8 114 (g8H v) ((a2L v).set 126 ((a3u v))) (g8K v) ((I2 v).set 182 ((M9 v))):=wF (fn:=a114) (wS 2 (b7m v) (b2H v) (XC.seq (wC 8 ((b7m v).set 17 (P3 v)) ((I2 v).set 182 ((M9 v))) (t39 v l t i j)) (wR (g7d v) ((I2 v).set 182 ((M9 v))))))
def d4h (v:Lt):List AV:=[k73,(a1V v),a5U]
def a1Y (v:Lt):St:=(((((s6 v).set 159 ((r7 v))).set 126 ((a0H v))).set 126 ((f1M v))).set 127 ((b20 v)))
def a2I (v:Lt):List AV:=[k73,(a1V v),a5U,(b2F v),a9J,(p8 v),(e0W v),k2,k3,.undef,.undef,.undef,.undef,.undef]
def d9o (v:Lt):List AV:=((((((a2I v).set 8 (k12 v)).set 9 (p22 v)).set 10 (P3 v)).set 11 .nils).set 12 a4i)
def a3Y (v:Lt):Obj:=.cells [k0,k38,.nils,(k98 v),k9,k2,k3,k21,(k22 v),.nils,a4i]
def g8o (v:Lt):List AV:=(((d9o v).set 5 (P3 v)).set 13 (.str [117,112,100,97,116,101]))
theorem t41 (v:Lt) (y:MOK v.m) (z:v.n≤12) (i:Q26 v) (j:Q27 v) (l:Q28 v) (t:Q29 v) (u:Q31 v) (x:Q35 v):Ev e8 46 (d4h v) (a1Y v) (d6c v) (((I2 v).set 182 ((M9 v))).set 126 ((a3Y v))):=wF (fn:=a46) (wS 4 (a2I v) (s9 v) (XC.seq (wU true (wS 2 (((a2I v).set 8 (k12 v)).set 9 (p22 v)) (s9 v) (wC 4 (((a2I v).set 8 (k12 v)).set 9 (p22 v)) ((a2L v).set 126 ((a3u v))) (g46 v y z i j l t)))) (wS 1 (((a2I v).set 8 (k12 v)).set 9 (p22 v)) ((a2L v).set 126 ((a3u v))) (XC.seq (wC 25 (d9o v) ((I2 v).set 182 ((M9 v))) (t40 v y z u x)) (wR (g8o v) (((I2 v).set 182 ((M9 v))).set 126 ((a3Y v))))))))
def g8s (v:Lt):List AV:=[(k99 v),k53]
def d4H (v:Lt):Obj:=.cells [k0,k38,.nils,(k98 v),k9,k2,k3,k21,(k22 v),.nils,(.int .i64 5)]
def f4Q (v:Lt):Obj:=.cells [k9,k2,k3,f4l,(.list true [[k9,k2,k3,k86,(k87 v)],[k9,k2,k3,a9L,b0c]])]
def a7s (v:Lt):Obj:=.cells [k9,k2,k3,(.list true [[k10]]),(.list true [[k11,k2,k53,k4,k4]])]
def a0D (v:Lt):St:=((((((I2 v).set 182 ((M9 v))).set 126 ((a3Y v))).set 126 ((d4H v))).set 127 ((f4Q v)))++[(a7s v),.cells [k10],(a7s v)])
abbrev Q42 (v:Lt):Prop:=Ev e8 177 (g8s v) (a0D v) (p73 v) (a0D v)
def b34 (v:Lt):AV:=(.agg [k52,f0B,k63,k4,k14,k14,k1,k2,k3,k4,k4])
def d89 (v:Lt):AV:=(.agg [k9,k2,k3,(.list false [[k10]]),f3i])
def d5m (v:Lt):List AV:=[k73,(b34 v),k53,(d89 v)]
def b4v (v:Lt):AV:=(.box [k52,f0B,k63,k4,k14,k14,k1,k2,k3,k4,k4])
def d9D (v:Lt):AV:=(.box [k9,k2,k3,(.list false [[k10]]),f3i])
def b9s (v:Lt):List AV:=[k73,(b34 v),k53,(d89 v),(b4v v),(d9D v),k2,(.str [100,101,108,101,116,101]),k63,.undef,.undef,.undef,.undef,.undef,.undef,.undef,.undef,.undef,.undef]
def b2L (v:Lt):List AV:=(((b9s v).set 9 k75).set 10 k14)
theorem t43 (v:Lt) (j:MOK v.m) (l:v.n≤12) (i:Q42 v):Ev e8 113 (d5m v) (a0D v) H0 (a0D v):=wF (fn:=a113) (wS 2 (b9s v) (a0D v) (XC.seq (wC 5 (b2L v) (a0D v) i) (wR ((b2L v).set 6 H0) (a0D v))))
def e1G (v:Lt):List AV:=[k73,(b34 v),(.agg [k51,(.sl 143 0 1 7)])]
def a9O (v:Lt):St:=(((((I2 v).set 182 ((M9 v))).set 126 ((a3Y v))).set 126 ((d4H v))).set 127 ((f4Q v)))
def c0i (v:Lt):List AV:=[k73,(b34 v),(.agg [k51,(.sl 143 0 1 7)]),(b4v v),(.box [k51,(.sl 143 0 1 7)]),(p8 v),(d9D v),k2,k3,.undef,.undef,.undef,.undef,.undef]
def g4a (v:Lt):AV:=(.box [k11,k2,k53,k4,k4])
def a7E (v:Lt):List AV:=(((c0i v).set 8 k53).set 9 (g4a v))
def g8q (v:Lt):Obj:=.cells [k0,k38,.nils,(k98 v),k9,k2,k3,k21,(k22 v),(.sl 194 0 1 2),(.int .i64 5)]
def a09 (v:Lt):St:=(((a0D v).set 126 ((g8q v)))++[.cells [(.list false [[k51]]),H0]])
def b4k (v:Lt):AV:=(.agg [k1,k2,k3,k4,k4])
theorem t44 (v:Lt) (j:MOK v.m) (l:v.n≤12) (i:Q42 v):Ev e8 46 (e1G v) (a9O v) (b4k v) (a09 v):=wF (fn:=a46) (wS 4 (c0i v) (a0D v) (XC.seq (wU true (wS 2 (a7E v) (a0D v) (wC 4 ((a7E v).set 7 H0) (a0D v) (t43 v j l i)))) (wR ((a7E v).set 7 H0) (a09 v))))
def c0m (v:Lt):List AV:=(((((b3U v).set 3 (a1y v)).set 1 (k62 v)).set 2 k57).set 3 k3)
def b9i (v:Lt):AV:=(.box [k2,k1,k2,k3,k16,k16,k16])
def f1s (v:Lt):AV:=(.box [k5,(.str [77]),k20,k55])
def a9w (v:Lt):List AV:=[k0,(k62 v),k57,k3,(p14 v),(a6G v),k58,(p16 v),a6P,(b9i v),(f1s v),k2,.undef,.undef,.undef,.undef,.undef,.undef,.undef,.undef,.undef,.undef]
def b9H (v:Lt):List AV:=((((a9w v).set 12 (p16 v)).set 13 k73).set 14 H4)
def a8I (v:Lt):List AV:=((((b9H v).set 19 (.sl 142 0 3 2)).set 20 k56).set 21 k2)
def a1t (v:Lt):List AV:=((((a8I v).set 15 k90).set 16 (p81 v)).set 17 k5)
def a1U (v:Lt):List AV:=(((((a1t v).set 18 (y8 v)).set 21 k26).set 15 a9J).set 16 (b2F v))
def a1p (v:Lt):List AV:=(((((a1U v).set 18 (P3 v)).set 21 k25).set 15 (.box [k51,(.sl 143 0 1 7)])).set 16 (b4v v))
def R7 (v:Lt):AV:=(.box [k1,k2,k3,k4,k4])
def a4j (v:Lt):Obj:=.cells [k9,k2,k3,d8t,(.list true [[k9,k2,k3,k86,(k87 v)],[k9,k2,k3,a9L,b0c],[k1,k2,k3,k4,k4]])]
def b2V (v:Lt):AV:=(.box [k2,k9,k2,k3,a7J,(e0t v),(.sl 194 0 1 2)])
def d8P (v:Lt):List AV:=(((((a1p v).set 18 (R7 v)).set 21 k56).set 8 (a6G v)).set 9 (b2V v))
def d8h (v:Lt):AV:=(.tuple [(k62 v),(.agg [k2,k9,k2,k3,a7J,(e0t v),(.sl 194 0 1 2)])])
theorem t45 (v:Lt) (D:MOK v.m) (E:v.n≤12) (F:Q0 v) (G:Q9 v) (i:Q10 v) (j:Q12 v) (l:Q26 v) (t:Q27 v) (u:Q28 v) (x:Q29 v) (y:Q31 v) (z:Q35 v) (B:Q42 v):Ev e8 20 (c0m v) (T_m v.C) (d8h v) ((a09 v).set 127 ((a4j v))):=wF (fn:=a20) (wS 4 (a9w v) (p15 v) (XC.seq (wC 4 ((a9w v).set 12 (p16 v)) (p26 v) (t3 v D E F)) (wS 3 (b9H v) (p66 v) (XC.seq (XC.seq (wC 5 (a8I v) (p59 v) (t8 v D E)) (wB1 (XC.loop (LX.step (wS 1 (a8I v) (p59 v) (XC.seq (wB0 (wS 4 (a1t v) ((p59 v).set 126 ((p68 v))) (XC.seq (wC 3 ((a1t v).set 18 (y8 v)) (((s6 v).set 159 ((r7 v))).set 126 ((a0H v))) (t25 v D E G i j)) (wN ((a1t v).set 18 (y8 v)) ((a1Y v).set 126 ((a0H v))))))) (wN (((a1t v).set 18 (y8 v)).set 21 k26) ((a1Y v).set 126 ((a0H v)))))) (LX.step (wS 1 (((a1t v).set 18 (y8 v)).set 21 k26) ((a1Y v).set 126 ((a0H v))) (XC.seq (wB0 (wS 4 (a1U v) (a1Y v) (XC.seq (wC 3 ((a1U v).set 18 (P3 v)) (((I2 v).set 182 ((M9 v))).set 126 ((a3Y v))) (t41 v D E l t u x y z)) (wN ((a1U v).set 18 (P3 v)) ((a9O v).set 126 ((a3Y v))))))) (wN (((a1U v).set 18 (P3 v)).set 21 k25) ((a9O v).set 126 ((a3Y v)))))) (LX.step (wS 1 (((a1U v).set 18 (P3 v)).set 21 k25) ((a9O v).set 126 ((a3Y v))) (XC.seq (wB0 (wS 4 (a1p v) (a9O v) (XC.seq (wC 3 ((a1p v).set 18 (R7 v)) (a09 v) (t44 v D E B)) (wN ((a1p v).set 18 (R7 v)) ((a09 v).set 127 ((a4j v))))))) (wN (((a1p v).set 18 (R7 v)).set 21 k56) ((a09 v).set 127 ((a4j v)))))) (wL 1 ((.exit 0),(((a1p v).set 18 (R7 v)).set 21 k56),((a09 v).set 127 ((a4j v))))))))))) (wR (d8P v) ((a09 v).set 127 ((a4j v))))))))
def a5x (v:Lt):St:=(T_b0++[.cells v.C])
def a9X (v:Lt):List AV:=[k0,(k62 v),W.txtW,(p14 v),(a6G v),(p16 v),a6P,(b9i v),.undef,.undef]
def a5k (v:Lt):List AV:=(((a9X v).set 8 k58).set 9 k2)
theorem doP (v:Lt) (F:MOK v.m) (G:v.n≤12) (D:Q0 v) (E:Q9 v) (i:Q10 v) (j:Q12 v) (l:Q26 v) (t:Q27 v) (u:Q28 v) (x:Q29 v) (y:Q31 v) (z:Q35 v) (B:Q42 v):Ev e8 8 [k0,(k62 v),W.txtW,(p14 v)] (a5x v) (d8h v) ((a09 v).set 127 ((a4j v))):=wF (fn:=a8) (wS 1 (a9X v) (a5x v) (XC.seq (wC 2 (a5k v) (T_m v.C) (c0A v.C)) (wS 1 (a5k v) (T_m v.C) (XC.seq (wC 4 (((a5k v).set 6 (a6G v)).set 7 (b2V v)) ((a09 v).set 127 ((a4j v))) (t45 v F G D E i j l t u x y z B)) (wR (((a5k v).set 6 (a6G v)).set 7 (b2V v)) ((a09 v).set 127 ((a4j v))))))))
abbrev Q47 (v:Lt):Prop:=Ev e8 177 [(k68 v),(k12 v)] (s9 v) (p73 v) (s9 v)
abbrev Q48 (v:Lt):Prop:=Ev e8 113 [k73,(a1V v),(k12 v),(a5M v)] (s9 v) H0 (s9 v)
def b2J (v:Lt):List AV:=(((((a2R v).set 9 (b4O v)).set 10 k5).set 9 k75).set 10 k14)
theorem g71 (v:Lt) (j:MOK v.m) (l:v.n≤12) (i:Q47 v):Ev e8 113 [k73,(a1V v),(k12 v),(a5M v)] (s9 v) H0 (s9 v):=wF (fn:=a113) (wS 2 (a2R v) (s9 v) (XC.seq (wC 5 (b2J v) (s9 v) i) (wR ((b2J v).set 6 H0) (s9 v))))
def f1N (v:Lt):List AV:=((((a2I v).set 8 (k12 v)).set 9 (p22 v)).set 7 H0)
def f0w (v:Lt):Obj:=.cells [k0,k38,.nils,(k67 v),k9,k2,k3,k21,(k22 v),(.sl 175 0 1 2),k56]
def a5E (v:Lt):St:=(((s9 v).set 126 ((f0w v)))++[.cells [a3A,H0]])
theorem t50 (v:Lt) (j:MOK v.m) (l:v.n≤12) (i:Q48 v):Ev e8 46 (d4h v) (a1Y v) (b4k v) (a5E v):=wF (fn:=a46) (wS 4 (a2I v) (s9 v) (XC.seq (wU true (wS 2 (((a2I v).set 8 (k12 v)).set 9 (p22 v)) (s9 v) (wC 4 (f1N v) (s9 v) i))) (wR (f1N v) (a5E v))))
def g6U (v:Lt):List AV:=[(k68 v),k53]
def b4l (v:Lt):Obj:=.cells [k0,k38,.nils,(k67 v),k9,k2,k3,k21,(k22 v),(.sl 175 0 1 2),a4i]
def a7M (v:Lt):Obj:=.cells [k9,k2,k3,f4l,(.list true [[k9,k2,k3,k86,(k87 v)],[k1,k2,k3,k4,k4]])]
def a0B (v:Lt):St:=((((a5E v).set 126 ((b4l v))).set 127 ((a7M v)))++[(a7s v),.cells [k10],(a7s v)])
abbrev Q51 (v:Lt):Prop:=Ev e8 177 (g6U v) (a0B v) (p73 v) (a0B v)
theorem t52 (v:Lt) (j:MOK v.m) (l:v.n≤12) (i:Q51 v):Ev e8 113 (d5m v) (a0B v) H0 (a0B v):=wF (fn:=a113) (wS 2 (b9s v) (a0B v) (XC.seq (wC 5 (b2L v) (a0B v) i) (wR ((b2L v).set 6 H0) (a0B v))))
def g4w (v:Lt):Obj:=.cells [k0,k38,.nils,(k67 v),k9,k2,k3,k21,(k22 v),(.sl 179 0 2 2),a4i]
def f1W (v:Lt):Obj:=.cells [a3A,H0,(.list false [[k51]]),H0]
def a1v (v:Lt):St:=((((a0B v).set 126 ((g4w v))).set 175 (.dead))++[(f1W v)])
theorem t53 (v:Lt) (j:MOK v.m) (l:v.n≤12) (i:Q51 v):Ev e8 46 (e1G v) (((a5E v).set 126 ((b4l v))).set 127 ((a7M v))) (b4k v) (a1v v):=wF (fn:=a46) (wS 4 (c0i v) (a0B v) (XC.seq (wU true (wS 2 (a7E v) (a0B v) (wC 4 ((a7E v).set 7 H0) (a0B v) (t52 v j l i)))) (wR ((a7E v).set 7 H0) (a1v v))))
def b8r (v:Lt):St:=((((a5E v).set 126 ((b4l v))).set 127 ((a7M v))).set 126 ((f0w v)))
def e4L (v:Lt):List AV:=((((a1U v).set 18 (P3 v)).set 18 (R7 v)).set 21 k25)
def a3a (v:Lt):Obj:=.cells [k9,k2,k3,d8t,(.list true [[k9,k2,k3,k86,(k87 v)],[k1,k2,k3,k4,k4],[k1,k2,k3,k4,k4]])]
def f2a (v:Lt):AV:=(.box [k2,k9,k2,k3,a7J,(b3V v),(.sl 179 0 2 2)])
def e0h (v:Lt):AV:=(.tuple [(k62 v),(.agg [k2,k9,k2,k3,a7J,(b3V v),(.sl 179 0 2 2)])])
theorem t54 (v:Lt) (u:MOK v.m) (x:v.n≤12) (y:Q0 v) (z:Q9 v) (i:Q10 v) (j:Q12 v) (l:Q48 v) (t:Q51 v):Ev e8 20 (c0m v) (T_m v.C) (e0h v) ((a1v v).set 127 ((a3a v))):=wF (fn:=a20) (wS 4 (a9w v) (p15 v) (XC.seq (wC 4 ((a9w v).set 12 (p16 v)) (p26 v) (t3 v u x y)) (wS 3 (b9H v) (p66 v) (XC.seq (XC.seq (wC 5 (a8I v) (p59 v) (t8 v u x)) (wB1 (XC.loop (LX.step (wS 1 (a8I v) (p59 v) (XC.seq (wB0 (wS 4 (a1t v) ((p59 v).set 126 ((p68 v))) (XC.seq (wC 3 ((a1t v).set 18 (y8 v)) (((s6 v).set 159 ((r7 v))).set 126 ((a0H v))) (t25 v u x z i j)) (wN ((a1t v).set 18 (y8 v)) ((a1Y v).set 126 ((a0H v))))))) (wN (((a1t v).set 18 (y8 v)).set 21 k26) ((a1Y v).set 126 ((a0H v)))))) (LX.step (wS 1 (((a1t v).set 18 (y8 v)).set 21 k26) ((a1Y v).set 126 ((a0H v))) (XC.seq (wB0 (wS 4 (a1U v) (a1Y v) (XC.seq (wC 3 (((a1U v).set 18 (P3 v)).set 18 (R7 v)) (a5E v) (t50 v u x l)) (wN (((a1U v).set 18 (P3 v)).set 18 (R7 v)) (b8r v))))) (wN (e4L v) (b8r v)))) (LX.step (wS 1 (e4L v) (b8r v) (XC.seq (wB0 (wS 4 ((a1p v).set 18 (R7 v)) (((a5E v).set 126 ((b4l v))).set 127 ((a7M v))) (XC.seq (wC 3 ((a1p v).set 18 (R7 v)) (a1v v) (t53 v u x t)) (wN ((a1p v).set 18 (R7 v)) ((a1v v).set 127 ((a3a v))))))) (wN (((a1p v).set 18 (R7 v)).set 21 k56) ((a1v v).set 127 ((a3a v)))))) (wL 1 ((.exit 0),(((a1p v).set 18 (R7 v)).set 21 k56),((a1v v).set 127 ((a3a v))))))))))) (wR ((d8P v).set 9 (f2a v)) ((a1v v).set 127 ((a3a v))))))))
def d9s (v:Lt):List AV:=((((a5k v).set 6 (a6G v)).set 7 (b2V v)).set 7 (f2a v))
theorem doN (v:Lt) (y:MOK v.m) (z:v.n≤12) (u:Q0 v) (x:Q9 v) (i:Q10 v) (j:Q12 v) (l:Q48 v) (t:Q51 v):Ev e8 8 [k0,(k62 v),W.txtW,(p14 v)] (a5x v) (e0h v) ((a1v v).set 127 ((a3a v))):=wF (fn:=a8) (wS 1 (a9X v) (a5x v) (XC.seq (wC 2 (a5k v) (T_m v.C) (c0A v.C)) (wS 1 (a5k v) (T_m v.C) (XC.seq (wC 4 (d9s v) ((a1v v).set 127 ((a3a v))) (t54 v y z u x i j l t)) (wR (d9s v) ((a1v v).set 127 ((a3a v))))))))
def g74 (v:Lt):AV:=(.tuple [(.agg [(.str [67,97,116]),(k12 v),(k93 v),(k94 v)]),k5])
abbrev Q56 (v:Lt):Prop:=Ev e8 177 [(k68 v),(k12 v)] (s9 v) (g74 v) (s9 v)
def g6g (v:Lt):AV:=(.box [(.str [67,97,116]),(k12 v),(k93 v),(k94 v)])
def b3m (v:Lt):List AV:=((((a2R v).set 9 (b4O v)).set 10 k5).set 9 (g6g v))
theorem g6T (v:Lt) (j:MOK v.m) (l:v.n≤12) (i:Q56 v):Ev e8 113 [k73,(a1V v),(k12 v),(a5M v)] (s9 v) H0 (s9 v):=wF (fn:=a113) (wS 2 (a2R v) (s9 v) (XC.seq (wC 5 (b3m v) (s9 v) i) (wR ((b3m v).set 6 H0) (s9 v))))
def g60 (v:Lt):AV:=(.tuple [(.agg [(.str [68,111,103]),(k12 v),(k93 v),(k94 v)]),k5])
abbrev Q58 (v:Lt):Prop:=Ev e8 177 [(k68 v),(k12 v)] (s9 v) (g60 v) (s9 v)
def f2F (v:Lt):AV:=(.box [(.str [68,111,103]),(k12 v),(k93 v),(k94 v)])
theorem g3U (v:Lt) (j:MOK v.m) (l:v.n≤12) (i:Q58 v):Ev e8 113 [k73,(a1V v),(k12 v),(a5M v)] (s9 v) H0 (s9 v):=wF (fn:=a113) (wS 2 (a2R v) (s9 v) (XC.seq (wC 5 ((b3m v).set 9 (f2F v)) (s9 v) i) (wR (((b3m v).set 9 (f2F v)).set 6 H0) (s9 v))))
def b9Q (v:Lt):Obj:=.cells [(.list false [[k6,(.str [109,117,116,97,116,105,111,110]),k2,k2],[k6,(.str [77]),k2,(.int .i64 9)],[r9,(.str [40]),k2,(.int .i64 10)],[r9,(.str [36]),k2,(.int .i64 11)],[k6,k10,k2,(.int .i64 12)],[r9,Y3,k2,(.int .i64 14)],[k6,k18,k2,(.int .i64 16)],[r9,(.str [33]),k2,(.int .i64 18)],[r9,(.str [36]),k2,(.int .i64 21)],[k6,k19,k2,(.int .i64 22)],[r9,Y3,k2,(.int .i64 23)],[k6,k13,k2,(.int .i64 25)],[r9,(.str [41]),k2,(.int .i64 28)],[r9,a7B,k2,(.int .i64 30)],[k6,k27,k2,(.int .i64 31)],[r9,Y3,k2,(.int .i64 32)],[k6,k28,k2,(.int .i64 34)],[r9,(.str [40]),k2,(.int .i64 46)],[k6,k10,k2,(.int .i64 47)],[r9,Y3,k2,(.int .i64 49)],[(.int .u8 3),k29,k2,(.int .i64 51)],[k6,k30,k2,(.int .i64 58)],[r9,Y3,k2,(.int .i64 63)],[r9,a7B,k2,(.int .i64 65)],[k6,k31,k2,(.int .i64 66)],[r9,Y3,k2,(.int .i64 70)],[(.int .u8 3),k19,k2,(.int .i64 72)],[k6,k32,k2,(.int .i64 77)],[r9,Y3,k2,(.int .i64 80)],[r9,(.str [36]),k2,(.int .i64 82)],[k6,k19,k2,(.int .i64 83)],[r9,a6L,k2,(.int .i64 84)],[r9,(.str [41]),k2,(.int .i64 85)],[r9,a7B,k2,(.int .i64 87)],[k6,k32,k2,(.int .i64 88)],[r9,a6L,k2,(.int .i64 91)],[k6,k43,k2,(.int .i64 93)],[r9,Y3,k2,(.int .i64 94)],[k6,k44,k2,(.int .i64 96)],[r9,(.str [40]),k2,(.int .i64 108)],[k6,k10,k2,(.int .i64 109)],[r9,Y3,k2,(.int .i64 111)],[r9,(.str [36]),k2,(.int .i64 113)],[k6,k10,k2,(.int .i64 114)],[k6,k30,k2,(.int .i64 118)],[r9,Y3,k2,(.int .i64 123)],[r9,a7B,k2,(.int .i64 125)],[k6,k32,k2,(.int .i64 126)],[r9,Y3,k2,(.int .i64 129)],[r9,(.str [36]),k2,(.int .i64 131)],[k6,k19,k2,(.int .i64 132)],[k6,k31,k2,(.int .i64 135)],[r9,Y3,k2,(.int .i64 139)],[(.int .u8 3),k46,k2,(.int .i64 141)],[r9,a6L,k2,(.int .i64 144)],[r9,(.str [41]),k2,(.int .i64 145)],[r9,a7B,k2,(.int .i64 147)],[k6,k31,k2,(.int .i64 148)],[r9,a6L,k2,(.int .i64 152)],[k6,k51,k2,(.int .i64 154)],[r9,Y3,k2,(.int .i64 155)],[k6,k52,k2,(.int .i64 157)],[r9,(.str [40]),k2,(.int .i64 169)],[k6,k10,k2,(.int .i64 170)],[r9,Y3,k2,(.int .i64 172)],[(.int .u8 3),k53,k2,(.int .i64 174)],[r9,(.str [41]),k2,(.int .i64 182)],[r9,a7B,k2,(.int .i64 184)],[k6,k31,k2,(.int .i64 185)],[r9,a6L,k2,(.int .i64 189)],[r9,a6L,k2,(.int .i64 190)],[k1,k3,k2,(.int .i64 191)]]),(.int .i64 71),k2]
def b9K (v:Lt):Obj:=.cells [k5,(.str [77]),k20,k55]
def a7y (v:Lt):Obj:=.cells [k10,k11,k2,k29,k4,k4]
def a7A (v:Lt):Obj:=.cells [k11,k2,k29,k4,k4]
def a6K (v:Lt):Obj:=.cells [k30,k9,k2,k3,k33,k35]
def a7a (v:Lt):Obj:=.cells [k69,k4,k5]
def a6I (v:Lt):Obj:=.cells [k9,k2,k3,k33,k35]
def a7p (v:Lt):Obj:=.cells [k11,k2,k19,k4,k4]
def a0J (v:Lt):Obj:=.cells [k34,k2,k19,k4,k4]
def a6O (v:Lt):Obj:=.cells [k10,k34,k2,k10,k4,k4]
def a7x (v:Lt):Obj:=.cells [k34,k2,k10,k4,k4]
def a6H (v:Lt):Obj:=.cells [k30,k9,k2,k3,k45,k47]
def a6T (v:Lt):Obj:=.cells [k9,k2,k3,k45,k47]
def a7K (v:Lt):Obj:=.cells [k11,k2,k46,k4,k4]
def a7q (v:Lt):Obj:=.cells [k10,k11,k2,k53,k4,k4]
def a7g (v:Lt):Obj:=.cells [k11,k2,k53,k4,k4]
def c0a (v:Lt):Obj:=.cells [E5,k5,(.str [77]),k20,k55,(.list true [[k19],[k10],[k19]])]
def S9 (v:Lt):St:=(((a5x v).set 31 (.cells [I5,.nils]))++[.cells [k2],.cells [k2],(b9Q v),.cells [M3],.cells [M3],.cells [M3],.cells [M3],.cells [M3],.cells [M3],.cells [M3],(b9K v),.cells [k0,I5,.nils,k4],.cells [k16],(p32 v),(p41 v),(p50 v),(a7y v),.cells [E5],.cells [k18,k4,k5],(a7A v),.cells [k0],.cells [k18,k4,k5],(a6K v),.cells [E5],(a7a v),(a6I v),.cells [k31],.cells [E5],(a0c v),(a7p v),.cells [k0],(a0c v),.cells [k32],.cells [E5],.cells [k13,k4,k14],(a0J v),.cells [k16],(p97 v),.cells [k16],(a6O v),.cells [E5],.cells [k18,k4,k5],(a7x v),(a6H v),.cells [E5],(a7a v),(a6T v),.cells [k32],.cells [E5],.cells [k13,k4,k14],(a0J v),.cells [k31],.cells [E5],(a0c v),(a7K v),.cells [k0],(a0c v),.cells [k16],(a4d v),.cells [k16],(a7q v),.cells [E5],.cells [k18,k4,k5],(a7g v),.cells [k0],.cells [k18,k4,k5],.cells [k16],(a4d v),.cells [k16],(c0a v),(a7y v),(a7A v),(a6K v),(a6I v),.cells [k2],(a7p v),.cells [k26],(a0J v),.cells [k19],(a6O v),(a7x v),.cells [k10],(a6H v),(a6T v),.cells [k2],(a0J v),.cells [k19],.cells [k26],(a7K v),(a7q v),(a7g v),.cells [k3],(p2 v)])
abbrev Q60 (v:Lt):Prop:=Ev e8 224 [(p0 v),k13,(p1 v)] (S9 v) (p4 v) (S9 v)
theorem t61 (v:Lt) (j:MOK v.m) (l:v.n≤12) (i:Q60 v):Ev e8 169 (p5 v) (S9 v) (p4 v) (S9 v):=wF (fn:=a169) (wS 4 (p9 v) (S9 v) (XC.seq (wC 4 (((p9 v).set 6 (p7 v)).set 7 k5) (S9 v) i) (wR (((p9 v).set 6 (p7 v)).set 7 k5) (S9 v))))
theorem t62 (v:Lt) (j:MOK v.m) (l:v.n≤12) (i:Q60 v):Ev e8 107 (p10 v) (S9 v) (p12 v) (S9 v):=wF (fn:=a107) (wS 2 (p11 v) (S9 v) (XC.seq (wC 3 (((p11 v).set 8 (p7 v)).set 9 k2) (S9 v) (t61 v j l i)) (wR ((((p11 v).set 8 (p7 v)).set 9 k2).set 5 (p7 v)) (S9 v))))
def b4b (v:Lt):St:=(((a5x v).set 31 (.cells [I5,.nils]))++[.cells [k2],.cells [k2],(b9Q v),.cells [M3],.cells [M3],.cells [M3],.cells [M3],.cells [M3],.cells [M3],.cells [M3],(b9K v),.cells [k0,I5,.nils,k4],.cells [k16],(p32 v),(p41 v),(p50 v),(a7y v),.cells [E5],.cells [k18,k4,k5],(a7A v),.cells [k0],.cells [k18,k4,k5],(a6K v),.cells [E5],(a7a v),(a6I v),.cells [k31],.cells [E5],(a0c v),(a7p v),.cells [k0],(a0c v),.cells [k32],.cells [E5],.cells [k13,k4,k14],(a0J v),.cells [k16],(p97 v),.cells [k16],(a6O v),.cells [E5],.cells [k18,k4,k5],(a7x v),(a6H v),.cells [E5],(a7a v),(a6T v),.cells [k32],.cells [E5],.cells [k13,k4,k14],(a0J v),.cells [k31],.cells [E5],(a0c v),(a7K v),.cells [k0],(a0c v),.cells [k16],(a4d v),.cells [k16],(a7q v),.cells [E5],.cells [k18,k4,k5],(a7g v),.cells [k0],.cells [k18,k4,k5],.cells [k16],(a4d v),.cells [k16],(c0a v),(a7y v),(a7A v),(a6K v),(a6I v),.cells [k2],(a7p v),.cells [k26],(a0J v),.cells [k19],(a6O v),(a7x v),.cells [k10],(a6H v),(a6T v),.cells [k2],(a0J v),.cells [k19],.cells [k26],(a7K v),(a7q v),(a7g v),.cells [k3]])
def d4y (v:Lt):St:=((b4b v)++[(p18 v)])
def a2G (v:Lt):St:=((b4b v)++[(p25 v)])
def b75 (v:Lt):List AV:=(((((p23 v).set 8 (p24 v)).set 9 (p7 v)).set 7 a3M).set 14 k25)
theorem t63 (v:Lt) (j:MOK v.m) (l:v.n≤12) (i:Q60 v):Ev e8 43 [k0,(p13 v),(p14 v)] (b4b v) (p28 v) (a2G v):=wF (fn:=a43) (wS 2 ((p17 v).set 7 a3M) (d4y v) (XC.seq (wS 1 ((p20 v).set 7 a3M) (d4y v) (wB1 (XC.loop (wY 1 ((p23 v).set 7 a3M) (S9 v) (LX.step (wS 1 ((p23 v).set 7 a3M) (S9 v) (XC.seq (wB0 (wS 3 ((((p23 v).set 8 (p24 v)).set 9 (p7 v)).set 7 a3M) (S9 v) (XC.seq (wB0 (wU true (wC 4 ((((p23 v).set 8 (p24 v)).set 9 (p7 v)).set 7 a3M) (S9 v) (t62 v j l i)))) (wN ((((p23 v).set 8 (p24 v)).set 9 (p7 v)).set 7 a3M) (a2G v))))) (wN (b75 v) (a2G v)))) (wL 1 ((.exit 0),(b75 v),(a2G v)))))))) (wR ((b75 v).set 4 (p16 v)) (a2G v))))
def b9J (v:Lt):Obj:=.cells [k0,I5,.nils,.nils,k9,k2,k3,k21,(k22 v),.nils,k2]
def d73 (v:Lt):Obj:=.cells [k0,I5,.nils,k39,k9,k2,k3,k21,(k22 v),k16,k16]
def b8l (v:Lt):St:=((a2G v)++[(b9J v),(p18 v),(d73 v),(p32 v),.cells [H4]])
def g5O (v:Lt):Obj:=.cells [k0,I5,.nils,k39,k9,k2,k3,k21,(k22 v),k16,(.sl 131 0 1 2)]
def f4O (v:Lt):St:=(((b8l v).set 127 ((g5O v)))++[.cells [k27],.cells [k27,k16]])
def g7L (v:Lt):List AV:=((((((p35 v).set 0 H4).set 3 (.ptr 130 0)).set 5 (p29 v)).set 6 k2).set 7 a3y)
def a4h (v:Lt):St:=(((f4O v).set 131 (.cells [k27,a3y]))++[(p32 v)])
theorem t64 (v:Lt) (i:MOK v.m) (j:v.n≤12):Ev e8 171 [H4,(p29 v)] (b8l v) k42 (a4h v):=wF (fn:=a171) (wS 5 (((p35 v).set 0 H4).set 3 (.ptr 130 0)) (f4O v) (wO (.normal,(g7L v),(a4h v)) (.normal,(((p35 v).set 0 H4).set 3 (.ptr 130 0)),(a4h v)) (.normal,(((p35 v).set 0 H4).set 3 (.ptr 130 0)),(a4h v))))
def b7j (v:Lt):St:=((a4h v)++[(p41 v),.cells [H4]])
def g6h (v:Lt):Obj:=.cells [k0,I5,.nils,k39,k9,k2,k3,k21,(k22 v),k16,(.sl 136 0 2 2)]
def f3r (v:Lt):St:=((((b7j v).set 127 ((g6h v))).set 131 (.dead))++[.cells [k43],.cells [k27,a3y,k43,k16]])
def g4l (v:Lt):List AV:=((((((p44 v).set 0 H4).set 3 (.ptr 135 0)).set 5 (p40 v)).set 6 k2).set 7 a3o)
def a3S (v:Lt):St:=(((f3r v).set 136 (.cells [k27,a3y,k43,a3o]))++[(p41 v)])
theorem t65 (v:Lt) (i:MOK v.m) (j:v.n≤12):Ev e8 171 [H4,(p40 v)] (b7j v) k42 (a3S v):=wF (fn:=a171) (wS 5 (((p44 v).set 0 H4).set 3 (.ptr 135 0)) (f3r v) (wO (.normal,(g4l v),(a3S v)) (.normal,(((p44 v).set 0 H4).set 3 (.ptr 135 0)),(a3S v)) (.normal,(((p44 v).set 0 H4).set 3 (.ptr 135 0)),(a3S v))))
def b7d (v:Lt):St:=((a3S v)++[(p50 v),.cells [H4]])
def g8b (v:Lt):Obj:=.cells [k0,I5,.nils,k39,k9,k2,k3,k21,(k22 v),k16,(.sl 141 0 3 2)]
def g8C (v:Lt):Obj:=.cells [k27,a3y,k43,a3o,k51,k16]
def e4R (v:Lt):St:=((((b7d v).set 127 ((g8b v))).set 136 (.dead))++[.cells [k51],(g8C v)])
def g6P (v:Lt):List AV:=((((((p53 v).set 0 H4).set 3 (.ptr 140 0)).set 5 (p49 v)).set 6 k2).set 7 (.sl 142 0 1 7))
def g5u (v:Lt):Obj:=.cells [k27,a3y,k43,a3o,k51,(.sl 142 0 1 7)]
def L9 (v:Lt):St:=(((e4R v).set 141 ((g5u v)))++[(p50 v)])
theorem t66 (v:Lt) (i:MOK v.m) (j:v.n≤12):Ev e8 171 [H4,(p49 v)] (b7d v) k42 (L9 v):=wF (fn:=a171) (wS 5 (((p53 v).set 0 H4).set 3 (.ptr 140 0)) (e4R v) (wO (.normal,(g6P v),(L9 v)) (.normal,(((p53 v).set 0 H4).set 3 (.ptr 140 0)),(L9 v)) (.normal,(((p53 v).set 0 H4).set 3 (.ptr 140 0)),(L9 v))))
def b44 (v:Lt):St:=((a2G v)++[(b9J v),(p18 v),(d73 v)])
def a5N (v:Lt):List AV:=((((p62 v).set 0 H4).set 2 k40).set 7 k6)
def a6E (v:Lt):List AV:=((((a5N v).set 6 k26).set 2 (.ptr 133 0)).set 6 k25)
theorem t67 (v:Lt) (i:MOK v.m) (j:v.n≤12):Ev e8 110 [H4,(p60 v)] (b44 v) k42 (L9 v):=wF (fn:=a110) (wS 1 ((p62 v).set 0 H4) (b44 v) (wB1 (XC.loop (LX.step (wS 1 ((p62 v).set 0 H4) (b44 v) (XC.seq (wB0 (wS 3 (a5N v) (b8l v) (wB0 (wU true (wC 2 (a5N v) (a4h v) (t64 v i j)))))) (wN ((a5N v).set 6 k26) (a4h v)))) (LX.step (wS 1 ((a5N v).set 6 k26) (a4h v) (XC.seq (wB0 (wS 3 (((a5N v).set 6 k26).set 2 (.ptr 133 0)) (b7j v) (wB0 (wU true (wC 2 (((a5N v).set 6 k26).set 2 (.ptr 133 0)) (a3S v) (t65 v i j)))))) (wN (a6E v) (a3S v)))) (LX.step (wS 1 (a6E v) (a3S v) (XC.seq (wB0 (wS 3 ((a6E v).set 2 (.ptr 138 0)) (b7d v) (wB0 (wU true (wC 2 ((a6E v).set 2 (.ptr 138 0)) (L9 v) (t66 v i j)))))) (wN (((a6E v).set 2 (.ptr 138 0)).set 6 k56) (L9 v)))) (wL 1 ((.exit 0),(((a6E v).set 2 (.ptr 138 0)).set 6 k56),(L9 v)))))))))
def e1J (v:Lt):St:=((a2G v)++[(b9J v),(p18 v)])
def b4F (v:Lt):List AV:=((((p67 v).set 1 a5B).set 5 b46).set 8 H4)
theorem t68 (v:Lt) (i:MOK v.m) (j:v.n≤12):Ev e8 44 ((p65 v).set 1 a5B) (e1J v) (.sl 141 0 3 2) (L9 v):=wF (fn:=a44) (wS 2 (b4F v) (b44 v) (XC.seq (wC 2 (b4F v) (L9 v) (t67 v i j)) (wR ((b4F v).set 7 (.sl 141 0 3 2)) (L9 v))))
def a7f (v:Lt):Obj:=.cells [k0,I5,.nils,Y5,k9,k2,k3,k21,(k22 v),.nils,k26]
def a6Z (v:Lt):Obj:=.cells [k63,k29,k45,(k64 v)]
def a9z (v:Lt):Obj:=.cells [k0,I5,.nils,Y5,k5,k4,k9,k2,k3,k21,(k22 v),.nils,k14,k26]
def e0S (v:Lt):Obj:=.cells [k0,I5,.nils,k63,k9,k2,k3,k21,(k22 v),k16,k16]
def b9E (v:Lt):St:=(((L9 v).set 125 ((a7f v)))++[(p69 v),.cells [k10],.cells [k30],(p70 v),.cells [k31],.cells [k32],(p71 v),.cells [k31],(p75 v),.cells [k32],(p76 v),(a6Z v),(a9z v),.cells [Y5,k5,k4],(p18 v),(e0S v),(p97 v),.cells [a1s]])
def g9a (v:Lt):Obj:=.cells [k0,I5,.nils,k63,k9,k2,k3,k21,(k22 v),k16,a9f]
def d9v (v:Lt):St:=(((b9E v).set 158 ((g9a v)))++[.cells [k32],.cells [k32,k16]])
def g63 (v:Lt):List AV:=((((((a3t v).set 0 a1s).set 3 k79).set 5 (p95 v)).set 6 k2).set 7 (.sl 163 0 1 7))
def G7 (v:Lt):St:=(((d9v v).set 162 (.cells [k32,(.sl 163 0 1 7)]))++[(p97 v)])
theorem t69 (v:Lt) (i:MOK v.m) (j:v.n≤12):Ev e8 171 [a1s,(p95 v)] (b9E v) k42 (G7 v):=wF (fn:=a171) (wS 5 (((a3t v).set 0 a1s).set 3 k79) (d9v v) (wO (.normal,(g63 v),(G7 v)) (.normal,(((a3t v).set 0 a1s).set 3 k79),(G7 v)) (.normal,(((a3t v).set 0 a1s).set 3 k79),(G7 v))))
def b4K (v:Lt):St:=(((L9 v).set 125 ((a7f v)))++[(p69 v),.cells [k10],.cells [k30],(p70 v),.cells [k31],.cells [k32],(p71 v),.cells [k31],(p75 v),.cells [k32],(p76 v),(a6Z v),(a9z v),.cells [Y5,k5,k4],(p18 v),(e0S v)])
def b3n (v:Lt):List AV:=((((a2T v).set 0 a1s).set 2 (.ptr 159 0)).set 7 k6)
theorem t70 (v:Lt) (i:MOK v.m) (j:v.n≤12):Ev e8 110 [a1s,(a1g v)] (b4K v) k42 (G7 v):=wF (fn:=a110) (wS 1 ((a2T v).set 0 a1s) (b4K v) (wB1 (XC.loop (LX.step (wS 1 ((a2T v).set 0 a1s) (b4K v) (XC.seq (wB0 (wS 3 (b3n v) (b9E v) (wB0 (wU true (wC 2 (b3n v) (G7 v) (t69 v i j)))))) (wN ((b3n v).set 6 k26) (G7 v)))) (wL 1 ((.exit 0),((b3n v).set 6 k26),(G7 v)))))))
def d4z (v:Lt):St:=(((L9 v).set 125 ((a7f v)))++[(p69 v),.cells [k10],.cells [k30],(p70 v),.cells [k31],.cells [k32],(p71 v),.cells [k31],(p75 v),.cells [k32],(p76 v),(a6Z v),(a9z v),.cells [Y5,k5,k4],(p18 v)])
def b8Z (v:Lt):List AV:=((((b4F v).set 2 k63).set 3 (a1g v)).set 8 a1s)
theorem t71 (v:Lt) (i:MOK v.m) (j:v.n≤12):Ev e8 44 ((b3U v).set 1 a5B) (d4z v) a9f (G7 v):=wF (fn:=a44) (wS 2 (b8Z v) (b4K v) (XC.seq (wC 2 (b8Z v) (G7 v) (t70 v i j)) (wR ((b8Z v).set 7 a9f) (G7 v))))
def a0E (v:Lt):Obj:=.cells [k0,I5,.nils,Y5,k5,k4,k9,k2,k3,k21,(k22 v),.nils,k14,k25]
def u9 (v:Lt):St:=(((G7 v).set 155 ((a0E v)))++[.cells [k0],.cells [k13,k4,k14]])
def f25 (v:Lt):List AV:=((((a9q v).set 3 (.ptr 164 0)).set 4 (.ptr 165 0)).set 8 k13)
theorem t72 (v:Lt) (i:MOK v.m) (j:v.n≤12):Ev e8 128 (p10 v) ((G7 v).set 155 ((a0E v))) k5 (u9 v):=wF (fn:=a128) (wS 3 (((a9q v).set 3 (.ptr 164 0)).set 4 (.ptr 165 0)) (u9 v) (wZ (wS 1 (f25 v) (u9 v) (wB0 (wU true (XC.seq (d5p i) (wR ((f25 v).set 6 k5) (u9 v))))))))
theorem t73 (v:Lt) (i:MOK v.m) (j:v.n≤12):Ev e8 267 [S5,k13,(p1 v)] ((G7 v).set 155 ((a0E v))) k5 (u9 v):=wF (fn:=a267) (wS 2 ((a5r v).set 0 S5) ((G7 v).set 155 ((a0E v))) (XC.seq (wC 7 (((a5r v).set 0 S5).set 4 k5) (u9 v) (t72 v i j)) (wR (((a5r v).set 0 S5).set 4 k5) (u9 v))))
def d8K (v:Lt):List AV:=(((b8O v).set 0 S5).set 3 b0G)
def b4c (v:Lt):List AV:=((((a9s v).set 0 S5).set 3 b0G).set 7 b4T)
theorem t74 (v:Lt) (i:MOK v.m) (j:v.n≤12):Ev e8 233 (d8K v) ((G7 v).set 155 ((a0E v))) (p1 v) (u9 v):=wF (fn:=a233) (wS 1 (b4c v) ((G7 v).set 155 ((a0E v))) (wZ (wB0 (wU false (wU false (wU true (XC.seq (wD 4 false (b4c v) (u9 v) (t73 v i j) (wN (b4c v) (u9 v))) (wR ((b4c v).set 8 (p7 v)) (u9 v)))))))))
def b7J (v:Lt):List AV:=((((b4h v).set 0 S5).set 3 b0G).set 7 b4T)
def g6Y (v:Lt):List AV:=((((b7J v).set 11 (p7 v)).set 8 (p7 v)).set 9 k5)
theorem t75 (v:Lt) (i:MOK v.m) (j:v.n≤12):Ev e8 182 (d8K v) ((G7 v).set 155 ((a0E v))) (b4P v) (u9 v):=wF (fn:=a182) (wS 2 (b7J v) ((G7 v).set 155 ((a0E v))) (XC.seq (wC 5 ((b7J v).set 11 (p7 v)) (u9 v) (t74 v i j)) (wR (g6Y v) (u9 v))))
def g5Q (v:Lt):List AV:=(((f0i v).set 0 S5).set 4 b0G)
def b8w (v:Lt):List AV:=((((b42 v).set 0 S5).set 4 b0G).set 8 b4T)
def d6G (v:Lt):List AV:=((((b8w v).set 11 (p7 v)).set 9 (p7 v)).set 10 k5)
theorem t76 (v:Lt) (i:MOK v.m) (j:v.n≤12):Ev e8 289 (g5Q v) ((G7 v).set 155 ((a0E v))) (b4P v) (u9 v):=wF (fn:=a289) (wS 2 (b8w v) ((G7 v).set 155 ((a0E v))) (wZ (wU true (wS 1 ((b8w v).set 11 (p7 v)) ((G7 v).set 155 ((a0E v))) (XC.seq (wC 6 (d6G v) (u9 v) (t75 v i j)) (wR (d6G v) (u9 v)))))))
def e7Q (v:Lt):St:=(((L9 v).set 125 ((a7f v)))++[(p69 v),.cells [k10],.cells [k30],(p70 v),.cells [k31],.cells [k32],(p71 v),.cells [k31],(p75 v),.cells [k32],(p76 v),(a6Z v),(a9z v),.cells [Y5,k5,k4]])
def e1N (v:Lt):List AV:=((((((b3R v).set 0 S5).set 8 k80).set 15 a9f).set 16 k26).set 17 k2)
def b3P (v:Lt):List AV:=[S5,k63,(p74 v),(a1g v),k84,(p86 v),(p8 v),k14,k80,b4T,(b9S v),k5,k85,.undef,.undef,a9f,k26,k2]
def b7h (v:Lt):List AV:=((((b3P v).set 13 (p7 v)).set 14 k5).set 17 k26)
theorem t77 (v:Lt) (i:MOK v.m) (j:v.n≤12):Ev e8 269 ((c0h v).set 0 S5) (e7Q v) (b4s v) ((u9 v).set 157 ((r7 v))):=wF (fn:=a269) (wS 2 (((b3R v).set 0 S5).set 8 k80) (d4z v) (XC.seq (XC.seq (wC 14 (e1N v) (G7 v) (t71 v i j)) (wB1 (XC.loop (LX.step (wS 1 (e1N v) (G7 v) (XC.seq (wB0 (wS 5 (b3P v) ((G7 v).set 155 ((a0E v))) (XC.seq (wC 6 (((b3P v).set 13 (p7 v)).set 14 k5) (u9 v) (t76 v i j)) (wN (((b3P v).set 13 (p7 v)).set 14 k5) ((u9 v).set 157 ((r7 v))))))) (wN (b7h v) ((u9 v).set 157 ((r7 v)))))) (wL 1 ((.exit 0),(b7h v),((u9 v).set 157 ((r7 v))))))))) (wR (((b7h v).set 6 (y8 v)).set 7 k5) ((u9 v).set 157 ((r7 v))))))
def d6y (v:Lt):List AV:=(((b8o v).set 0 S5).set 3 a5J)
def b2v (v:Lt):St:=(((L9 v).set 125 ((a7f v)))++[(p69 v),.cells [k10],.cells [k30],(p70 v),.cells [k31],.cells [k32],(p71 v),.cells [k31],(p75 v),.cells [k32],(p76 v),(a6Z v),(a9z v)])
def b8y (v:Lt):List AV:=((((((b0t v).set 14 (p86 v)).set 15 k5).set 0 S5).set 3 a5J).set 7 a8Z)
theorem t78 (v:Lt) (i:MOK v.m) (j:v.n≤12):Ev e8 233 (d6y v) (b2v v) (b4H v) ((u9 v).set 157 ((r7 v))):=wF (fn:=a233) (wS 5 (b8y v) (e7Q v) (XC.seq (wC 7 ((b8y v).set 16 (y8 v)) ((u9 v).set 157 ((r7 v))) (t77 v i j)) (wR (((b8y v).set 16 (y8 v)).set 8 (y8 v)) ((u9 v).set 157 ((r7 v))))))
def b8N (v:Lt):List AV:=((((b4r v).set 0 S5).set 3 a5J).set 7 a8Z)
def g4y (v:Lt):List AV:=((((b8N v).set 11 (y8 v)).set 8 (y8 v)).set 9 k5)
theorem t79 (v:Lt) (i:MOK v.m) (j:v.n≤12):Ev e8 182 (d6y v) (b2v v) (b4s v) ((u9 v).set 157 ((r7 v))):=wF (fn:=a182) (wS 2 (b8N v) (b2v v) (XC.seq (wC 5 ((b8N v).set 11 (y8 v)) ((u9 v).set 157 ((r7 v))) (t78 v i j)) (wR (g4y v) ((u9 v).set 157 ((r7 v))))))
def g67 (v:Lt):List AV:=((((e6h v).set 1 e5S).set 2 a5B).set 5 a5J)
def f3b (v:Lt):St:=(((L9 v).set 125 ((a7f v)))++[(p69 v),.cells [k10],.cells [k30],(p70 v),.cells [k31],.cells [k32],(p71 v),.cells [k31],(p75 v),.cells [k32],(p76 v),(a6Z v)])
def b9m (v:Lt):List AV:=[k0,e5S,a5B,(p14 v),(a1f v),a5J,k29,k26,(.box [Y5,k5,k4]),b46,(p16 v),(a5F v),a8Z,(p8 v),k16,k2,S5,.undef]
def g6j (v:Lt):List AV:=(((((b9m v).set 17 (y8 v)).set 13 (y8 v)).set 14 .nils).set 15 k25)
theorem t80 (v:Lt) (i:MOK v.m) (j:v.n≤12):Ev e8 114 (g67 v) (f3b v) (d7h v) ((u9 v).set 157 ((r7 v))):=wF (fn:=a114) (wS 2 (b9m v) (b2v v) (XC.seq (wC 8 ((b9m v).set 17 (y8 v)) ((u9 v).set 157 ((r7 v))) (t79 v i j)) (wR (g6j v) ((u9 v).set 157 ((r7 v))))))
def g6m (v:Lt):List AV:=[k24,(p79 v),a5J]
def d7x (v:Lt):Obj:=.cells [k0,I5,.nils,.nils,k9,k2,k3,k21,(k22 v),.nils,k26]
def f2V (v:Lt):List AV:=((((((a6J v).set 8 k29).set 9 (a9i v)).set 0 k24).set 2 a5J).set 4 a8Z)
def f1C (v:Lt):List AV:=((((f2V v).set 10 (y8 v)).set 11 .nils).set 12 k25)
def a3z (v:Lt):Obj:=.cells [k0,I5,.nils,Y5,k9,k2,k3,k21,(k22 v),.nils,k25]
def g6v (v:Lt):List AV:=(((f1C v).set 5 (y8 v)).set 13 k74)
theorem t81 (v:Lt) (i:MOK v.m) (j:v.n≤12):Ev e8 46 (g6m v) ((L9 v).set 125 ((d7x v))) (b4H v) (((u9 v).set 157 ((r7 v))).set 125 ((a3z v))):=wF (fn:=a46) (wS 6 (f2V v) (f3b v) (XC.seq (wC 25 (f1C v) ((u9 v).set 157 ((r7 v))) (t80 v i j)) (wR (g6v v) (((u9 v).set 157 ((r7 v))).set 125 ((a3z v))))))
def d5B (v:Lt):Obj:=.cells [k0,I5,.nils,Y5,k9,k2,k3,k21,(k22 v),.nils,k56]
def Z2 (v:Lt):St:=((((((u9 v).set 157 ((r7 v))).set 125 ((a3z v))).set 125 ((d5B v))).set 126 ((b20 v)))++[(d5z v),.cells [k10],.cells [k30],(e8j v),.cells [k32],.cells [k31],(f0f v)])
abbrev Q82 (v:Lt):Prop:=Ev e8 177 [(.agg [Y5]),(k12 v)] (Z2 v) (p73 v) (Z2 v)
theorem g6F (v:Lt) (j:MOK v.m) (l:v.n≤12) (i:Q82 v):Ev e8 113 [k24,(a1V v),(k12 v),(a5M v)] (Z2 v) H0 (Z2 v):=wF (fn:=a113) (wS 2 ((a2R v).set 0 k24) (Z2 v) (XC.seq (wC 5 ((b2J v).set 0 k24) (Z2 v) i) (wR (((b2J v).set 0 k24).set 6 H0) (Z2 v))))
def g7J (v:Lt):List AV:=[k24,(a1V v),(.agg [k43,a3o])]
def a9b (v:Lt):St:=(((((u9 v).set 157 ((r7 v))).set 125 ((a3z v))).set 125 ((d5B v))).set 126 ((b20 v)))
def b7o (v:Lt):List AV:=((((a2I v).set 0 k24).set 2 (.agg [k43,a3o])).set 4 (.box [k43,a3o]))
def e4I (v:Lt):List AV:=((((b7o v).set 8 (k12 v)).set 9 (p22 v)).set 7 H0)
def g66 (v:Lt):Obj:=.cells [k0,I5,.nils,Y5,k9,k2,k3,k21,(k22 v),(.sl 173 0 1 2),k56]
def b0v (v:Lt):St:=(((Z2 v).set 125 ((g66 v)))++[.cells [a3A,H0]])
theorem t84 (v:Lt) (j:MOK v.m) (l:v.n≤12) (i:Q82 v):Ev e8 46 (g7J v) (a9b v) (b4k v) (b0v v):=wF (fn:=a46) (wS 4 (b7o v) (Z2 v) (XC.seq (wU true (wS 2 (((b7o v).set 8 (k12 v)).set 9 (p22 v)) (Z2 v) (wC 4 (e4I v) (Z2 v) (g6F v j l i)))) (wR (e4I v) (b0v v))))
def g8r (v:Lt):List AV:=(((c0m v).set 1 a7l).set 2 a5B)
def b8p (v:Lt):St:=(((a5x v).set 31 (.cells [I5,.nils]))++[.cells [k2],.cells [k2],(b9Q v),.cells [M3],.cells [M3],.cells [M3],.cells [M3],.cells [M3],.cells [M3],.cells [M3],(b9K v),.cells [k0,I5,.nils,k4],.cells [k16],(p32 v),(p41 v),(p50 v),(a7y v),.cells [E5],.cells [k18,k4,k5],(a7A v),.cells [k0],.cells [k18,k4,k5],(a6K v),.cells [E5],(a7a v),(a6I v),.cells [k31],.cells [E5],(a0c v),(a7p v),.cells [k0],(a0c v),.cells [k32],.cells [E5],.cells [k13,k4,k14],(a0J v),.cells [k16],(p97 v),.cells [k16],(a6O v),.cells [E5],.cells [k18,k4,k5],(a7x v),(a6H v),.cells [E5],(a7a v),(a6T v),.cells [k32],.cells [E5],.cells [k13,k4,k14],(a0J v),.cells [k31],.cells [E5],(a0c v),(a7K v),.cells [k0],(a0c v),.cells [k16],(a4d v),.cells [k16],(a7q v),.cells [E5],.cells [k18,k4,k5],(a7g v),.cells [k0],.cells [k18,k4,k5],.cells [k16],(a4d v),.cells [k16],(c0a v),(a7y v),(a7A v),(a6K v),(a6I v),.cells [k2],(a7p v),.cells [k26],(a0J v),.cells [k19],(a6O v),(a7x v),.cells [k10],(a6H v),(a6T v),.cells [k2],(a0J v),.cells [k19],.cells [k26],(a7K v),(a7q v),(a7g v)])
def b8S (v:Lt):List AV:=[k0,a7l,a5B,k3,(p14 v),a6P,b46,(p16 v),a6P,(b9i v),(f1s v),k2,.undef,.undef,.undef,.undef,.undef,.undef,.undef,.undef,.undef,.undef]
def d9S (v:Lt):List AV:=((((b8S v).set 12 (p16 v)).set 13 k24).set 14 k73)
def b7z (v:Lt):List AV:=((((d9S v).set 19 (.sl 141 0 3 2)).set 20 k56).set 21 k2)
def a7D (v:Lt):List AV:=((((b7z v).set 15 a8Z).set 16 (p81 v)).set 17 k5)
def b0d (v:Lt):List AV:=(((((a7D v).set 18 (y8 v)).set 21 k26).set 15 (.box [k43,a3o])).set 16 (b2F v))
def e7j (v:Lt):List AV:=((((((b0d v).set 18 (R7 v)).set 21 k25).set 15 (.box [k51,(.sl 142 0 1 7)])).set 16 (b4v v)).set 21 k56)
def g5y (v:Lt):Obj:=.cells [k0,I5,.nils,Y5,k9,k2,k3,k21,(k22 v),(.sl 177 0 2 2),a4i]
def a6Y (v:Lt):St:=((((Z2 v).set 125 ((g5y v))).set 126 ((a3a v)))++[.dead,(a7s v),.cells [k10],(a7s v),(f1W v)])
def b8C (v:Lt):AV:=(.box [k2,k9,k2,k3,a7J,(b3V v),(.sl 177 0 2 2)])
def e2r (v:Lt):AV:=(.tuple [a7l,(.agg [k2,k9,k2,k3,a7J,(b3V v),(.sl 177 0 2 2)])])
theorem t85 (v:Lt) (l:MOK v.m) (t:v.n≤12) (i:Q60 v) (j:Q82 v):Ev e8 20 (g8r v) (b8p v) (e2r v) (a6Y v):=wF (fn:=a20) (wS 4 (b8S v) (b4b v) (XC.seq (wC 4 ((b8S v).set 12 (p16 v)) (a2G v) (t63 v l t i)) (wS 3 (d9S v) (e1J v) (XC.seq (XC.seq (wC 5 (b7z v) (L9 v) (t68 v l t)) (wB1 (XC.loop (LX.step (wS 1 (b7z v) (L9 v) (XC.seq (wB0 (wS 4 (a7D v) ((L9 v).set 125 ((d7x v))) (XC.seq (wC 3 ((a7D v).set 18 (y8 v)) (((u9 v).set 157 ((r7 v))).set 125 ((a3z v))) (t81 v l t)) (wN ((a7D v).set 18 (y8 v)) ((a9b v).set 125 ((a3z v))))))) (wN (((a7D v).set 18 (y8 v)).set 21 k26) ((a9b v).set 125 ((a3z v)))))) (LX.step (wS 1 (((a7D v).set 18 (y8 v)).set 21 k26) ((a9b v).set 125 ((a3z v))) (XC.seq (wB0 (wS 4 (b0d v) (a9b v) (XC.seq (wC 3 ((b0d v).set 18 (R7 v)) (b0v v) (t84 v l t j)) (wN ((b0d v).set 18 (R7 v)) ((b0v v).set 126 ((a7M v))))))) (wN (((b0d v).set 18 (R7 v)).set 21 k25) ((b0v v).set 126 ((a7M v)))))) (wL 2 ((.exit 0),(e7j v),(a6Y v)))))))) (wR ((e7j v).set 9 (b8C v)) (a6Y v))))))
def b3y (v:Lt):List AV:=(((((a9X v).set 1 a7l).set 4 a6P).set 8 b46).set 9 k2)
theorem doZ (v:Lt) (l:MOK v.m) (t:v.n≤12) (i:Q60 v) (j:Q82 v):Ev e8 8 [k0,a7l,W.txtW,(p14 v)] T_b0 (e2r v) (a6Y v):=wF (fn:=a8) (wS 1 (((a9X v).set 1 a7l).set 4 a6P) T_b0 (XC.seq (wC 2 (b3y v) (b8p v) e5m) (wS 1 (b3y v) (b8p v) (XC.seq (wC 4 ((b3y v).set 7 (b8C v)) (a6Y v) (t85 v l t i j)) (wR ((b3y v).set 7 (b8C v)) (a6Y v))))))
end Go.Cb.CodeA
